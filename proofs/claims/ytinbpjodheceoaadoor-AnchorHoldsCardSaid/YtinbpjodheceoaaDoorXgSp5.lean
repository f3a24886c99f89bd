/- Written by this session's programs (sprint.py, prune.py). -/
import Derived.Test.YtinbpjodheceoaaDoorXgSp0
import Derived.Test.YtinbpjodheceoaaDoorXgSp4
namespace Go.Proofs.YtinbpjodheceoaaDoor.Sp
open Go.RowKit Go.Proofs.YtinbpjodheceoaaDoorW.PrintWords Go.Proofs.YtinbpjodheceoaaDoorW.PrintLast Go.Proofs.YtinbpjodheceoaaDoorW.PrintMore
attribute [local go_sem] max2_int min2_int max_two min_two max_three min_three max_four min_four   -- for this text's walks alone
set_option linter.unusedVariables false
set_option linter.unusedSimpArgs false
attribute [local go_sem] own_leq own_gtr own_geq   -- for this text's walks alone
def attrs_Right_1.f (a0_0 : ByteArray) (a0_1 : ByteArray) : Option (Bool) := some (a0_1.toList == ([] : List UInt8))
set_option maxHeartbeats 8000000 in
set_option maxRecDepth 100000 in
theorem attrs_Right_1.calls (a0_0 : ByteArray) (a0_1 : ByteArray) (r : Bool) (w : World) (h : attrs_Right_1.f a0_0 a0_1 = some r) :
 Calls Tryd.prog 76 #[.agg #[.string a0_0, .string a0_1]] w fun e w' => e = .returned (.bool r) ∧ Below w.heap.size w w' := by
 have hu90 := Tryd.underlying90
 have HB := am (Below.refl w.heap.size w)
 have H : (some (a0_1.toList == ([] : List UInt8))) = some r := h
 clear h
 obtain rfl := Option.some.inj H
 go_enter Tryd.func76, Tryd.ntmps76
 go_wp2_with (first | ((with_reducible refine gate_dst (N := 1) rfl ?_); refine bev #[.string a0_0, .string a0_1] 90 ?_; intro gb113 hg w2 hbox hb; have BK113 := am (hbox); have GW113 := am (szl hg (bl HB.out)); have GE113 := am (szl hg (bl HB.out)); have HB := am (below_step (bl HB.out) hb); clear hb hbox hg; obtain ⟨hcz3_0, hcz3_1, hfz3_0, hfz3_1⟩ := bc2 BK113.out))
 go_ret
 exact ⟨re, bl HB.out⟩
def slices_IndexFunc__attrs_Right_1.l0 : Nat → List (S90) → Int → Int → Option (Int)
 | 0, _, _, _ => none
 | k + 1, x0, x7, x8 => if x8 < x7 then (if 0 ≤ x8 then (if x8 < (x0.length : Int) then ((attrs_Right_1.f ((rd_T90 x0 x8).f0) ((rd_T90 x0 x8).f1)).bind fun t115 => (if t115 = true then (some x8) else (slices_IndexFunc__attrs_Right_1.l0 k x0 x7 (wrap64 (x8 + 1))))) else (none)) else (none)) else (some (-1))
def slices_IndexFunc__attrs_Right_1.f (k : Nat) (l0 : List (S90))  : Option (Int) := slices_IndexFunc__attrs_Right_1.l0 k l0 (l0.length : Int) 0
theorem slices_IndexFunc__attrs_Right_1.mono_l : ∀ k, (∀ y0 y1 y2, LeO (slices_IndexFunc__attrs_Right_1.l0 k y0 y1 y2) (slices_IndexFunc__attrs_Right_1.l0 (k + 1) y0 y1 y2))
 | 0 => fun _ _ _ r h => by simp [slices_IndexFunc__attrs_Right_1.l0] at h
 | k + 1 => by
  have ih0 := slices_IndexFunc__attrs_Right_1.mono_l k
  intro y0 y1 y2
  unfold slices_IndexFunc__attrs_Right_1.l0
  exact lo
theorem slices_IndexFunc__attrs_Right_1.mono : ∀ a0 k, LeO (slices_IndexFunc__attrs_Right_1.f k a0) (slices_IndexFunc__attrs_Right_1.f (k + 1) a0) := by
 intro a0 k
 have ih0 := slices_IndexFunc__attrs_Right_1.mono_l k
 unfold slices_IndexFunc__attrs_Right_1.f
 exact lo
set_option maxHeartbeats 8000000 in
set_option maxRecDepth 100000 in
theorem slices_IndexFunc__attrs_Right_1.calls (k : Nat) (A0 : Option Addr) (c0 : Nat) (l0 : List (S90))  (r : Int) (w : World) (hr0 : Kd.C k90 w A0 l0.length l0) (hc0 : l0.length ≤ c0) (h : slices_IndexFunc__attrs_Right_1.f k l0 = some r) :
 Calls Tryd.prog 85 #[.slice A0 l0.length c0, .func (.func (76 : Nat)) #[] #[]] w fun e w' => e = .returned (.int .i64 r) ∧ Below w.heap.size w w' := by
 have hu90 := Tryd.underlying90
 have HR0 := am hr0
 have HC0 := am hc0
 clear hr0 hc0
 have HB := am (Below.refl w.heap.size w)
 have H : (slices_IndexFunc__attrs_Right_1.l0 k l0 (l0.length : Int) 0) = some r := h
 clear h
 have H' := am H
 clear H
 go_enter Tryd.func85, Tryd.ntmps85
 go_wp2
 go_loopg [8] k (fun kq v8 w' => ∃ (x8_1 : Int), v8 = .int .i64 x8_1 ∧ Aside0 (slices_IndexFunc__attrs_Right_1.l0 kq l0 (l0.length : Int) x8_1 = some r) ∧ Aside0 (kq ≤ k) ∧ Aside0 (Below w.heap.size w w'))
 case atStart => exact ⟨(0), (rs), H', ⟨Nat.le_refl _⟩, ⟨bl HB.out⟩⟩
 case round =>
  clear H'
  try clear p2
  obtain ⟨x8_1, rfl, HA, HK1, HB⟩ := hrel
  cases gk with
  | zero => exact absurd HA.out (by simp [slices_IndexFunc__attrs_Right_1.l0])
  | succ k1 =>
   have H := HA.out
   clear HA
   simp only [slices_IndexFunc__attrs_Right_1.l0] at H
   by_cases c3 : x8_1 < (l0.length : Int)
   ·rw [if_pos c3] at H
    have c3b0 : decide (x8_1 < (l0.length : Int)) = true := decide_eq_true c3
    clear c3
    by_cases c4 : 0 ≤ x8_1
    ·rw [if_pos c4] at H
     have c4b0 : decide (0 ≤ x8_1) = true := decide_eq_true c4
     clear c4
     by_cases c5 : x8_1 < (l0.length : Int)
     ·rw [if_pos c5] at H
      have c5b0 : decide (x8_1 < (l0.length : Int)) = true := decide_eq_true c5
      clear c5
      replace H := Option.bind_eq_some_iff.mp H
      obtain ⟨t115, A60, H⟩ := H
      replace H : (if t115 = true then (some x8_1) else (slices_IndexFunc__attrs_Right_1.l0 k1 l0 (l0.length : Int) (wrap64 (x8_1 + 1)))) = some r := H
      have A6 := am A60
      clear A60
      by_cases c7 : t115 = true
      ·subst c7
       have H1 : (some x8_1) = some r := by rw [if_pos rfl] at H; exact H
       clear H
       have H := H1
       clear H1
       obtain rfl := Option.some.inj H
       have p114 : 0 ≤ (x8_1 : Int) := oda
       have q114 : x8_1 < (l0.length : Int) := oda
       obtain ⟨ad114, e114, hx114_0, hx114_1⟩ := at_T90 HR0.out x8_1 p114 q114
       cases e114
       replace hx114_0 := hbc HB hx114_0
       replace hx114_1 := hbc HB hx114_1
       replace p114 := eq_true p114
       replace q114 := eq_true q114
       go_wp2_with (first | (go_at_call 76; (with_reducible refine (attrs_Right_1.calls ((rd_T90 l0 x8_1).f0) ((rd_T90 l0 x8_1).f1) true _ A6.out).mono ?_); rintro e w8 ⟨rfl, hb⟩; have HB := am (below_step (bl HB.out) hb); (try clear hb); (try clear hb2); (try clear hk); (try clear hi)))
       go_ret
       exact ⟨re, bl HB.out⟩
      replace c7 := Bool.eq_false_iff.mpr c7
      subst c7
      have H1 : (slices_IndexFunc__attrs_Right_1.l0 k1 l0 (l0.length : Int) (wrap64 (x8_1 + 1))) = some r := by rw [if_neg (show ¬ (false = true) by decide)] at H; exact H
      clear H
      have H := H1
      clear H1
      have H' := am H
      clear H
      have p114 : 0 ≤ (x8_1 : Int) := oda
      have q114 : x8_1 < (l0.length : Int) := oda
      obtain ⟨ad114, e114, hx114_0, hx114_1⟩ := at_T90 HR0.out x8_1 p114 q114
      cases e114
      replace hx114_0 := hbc HB hx114_0
      replace hx114_1 := hbc HB hx114_1
      replace p114 := eq_true p114
      replace q114 := eq_true q114
      go_wp2_with (first | (go_at_call 76; (with_reducible refine (attrs_Right_1.calls ((rd_T90 l0 x8_1).f0) ((rd_T90 l0 x8_1).f1) false _ A6.out).mono ?_); rintro e w9 ⟨rfl, hb⟩; have HB := am (below_step (bl HB.out) hb); (try clear hb); (try clear hb2); (try clear hk); (try clear hi)))
      go_roundg k1
      case measure => have := HK1.out; omega
      case rel => exact ⟨(wrap64 (x8_1 + 1)), (rs), H', ⟨by have := HK1.out; omega⟩, ⟨bl HB.out⟩⟩
     rw [if_neg c5] at H
     exact absurd H (by simp)
    rw [if_neg c4] at H
    exact absurd H (by simp)
   rw [if_neg c3] at H
   have c3b0 : decide (x8_1 < (l0.length : Int)) = false := decide_eq_false c3
   clear c3
   obtain rfl := Option.some.inj H
   go_wp2
   go_ret
   exact ⟨re, bl HB.out⟩
def slices_ContainsFunc__attrs_Right_1.f (k : Nat) (l0 : List (S90))  : Option (Bool) := (slices_IndexFunc__attrs_Right_1.f k l0).bind fun t116 => (some (decide (t116 ≥ 0)))
theorem slices_ContainsFunc__attrs_Right_1.mono : ∀ a0 k, LeO (slices_ContainsFunc__attrs_Right_1.f k a0) (slices_ContainsFunc__attrs_Right_1.f (k + 1) a0) := by
 intro a0 k
 unfold slices_ContainsFunc__attrs_Right_1.f
 have m0 := @slices_IndexFunc__attrs_Right_1.mono; exact lo
set_option maxHeartbeats 8000000 in
set_option maxRecDepth 100000 in
theorem slices_ContainsFunc__attrs_Right_1.calls (k : Nat) (A0 : Option Addr) (c0 : Nat) (l0 : List (S90))  (r : Bool) (w : World) (hr0 : Kd.C k90 w A0 l0.length l0) (hc0 : l0.length ≤ c0) (h : slices_ContainsFunc__attrs_Right_1.f k l0 = some r) :
 Calls Tryd.prog 75 #[.slice A0 l0.length c0, .func (.func (76 : Nat)) #[] #[]] w fun e w' => e = .returned (.bool r) ∧ Below w.heap.size w w' := by
 have HR0 := am hr0
 have HC0 := am hc0
 clear hr0 hc0
 have HB := am (Below.refl w.heap.size w)
 have H : ((slices_IndexFunc__attrs_Right_1.f k l0).bind fun t116 => (some (decide (t116 ≥ 0)))) = some r := h
 clear h
 replace H := Option.bind_eq_some_iff.mp H
 obtain ⟨t116, A30, H⟩ := H
 replace H : (some (decide (t116 ≥ 0))) = some r := H
 have A3 := am A30
 clear A30
 obtain rfl := Option.some.inj H
 go_enter Tryd.func75, Tryd.ntmps75
 go_wp2_with (first | (go_at_call 85; (with_reducible refine (slices_IndexFunc__attrs_Right_1.calls k _ _ l0  t116 _ ?side1 ?side2 A3.out).mono ?_); (case side1 => exact ks HR0.out); (case side2 => exact HC0.out); rintro e w4 ⟨rfl, hb⟩; have HB := am (below_step (bl HB.out) hb); (try clear hb); (try clear hb2); (try clear hk); (try clear hi)))
 go_ret
 exact ⟨re, bl HB.out⟩
def attrs_Right.f (k : Nat) (l0 : List (S90)) : Option (Int) := (slices_ContainsFunc__attrs_Right_1.f k l0).bind fun t117 => (if t117 = true then (some 20) else ((attrs_Change.f k l0).bind fun t118 => (some t118)))
theorem attrs_Right.mono : ∀ a0 k, LeO (attrs_Right.f k a0) (attrs_Right.f (k + 1) a0) := by
 intro a0 k
 unfold attrs_Right.f
 have m0 := @attrs_Change.mono; have m1 := @slices_ContainsFunc__attrs_Right_1.mono; exact lo
set_option maxHeartbeats 8000000 in
set_option maxRecDepth 100000 in
theorem attrs_Right.calls (k : Nat) (A0 : Option Addr) (c0 : Nat) (l0 : List (S90)) (r : Int) (w : World) (hr0 : Kd.C k90 w A0 l0.length l0) (hc0 : l0.length ≤ c0) (h : attrs_Right.f k l0 = some r) :
 Calls Tryd.prog 63 #[.slice A0 l0.length c0] w fun e w' => e = .returned (.int .i64 r) ∧ Below w.heap.size w w' := by
 have HR0 := am hr0
 have HC0 := am hc0
 clear hr0 hc0
 have HB := am (Below.refl w.heap.size w)
 have H : ((slices_ContainsFunc__attrs_Right_1.f k l0).bind fun t117 => (if t117 = true then (some 20) else ((attrs_Change.f k l0).bind fun t118 => (some t118)))) = some r := h
 clear h
 replace H := Option.bind_eq_some_iff.mp H
 obtain ⟨t117, A20, H⟩ := H
 replace H : (if t117 = true then (some 20) else ((attrs_Change.f k l0).bind fun t118 => (some t118))) = some r := H
 have A2 := am A20
 clear A20
 by_cases c3 : t117 = true
 ·subst c3
  have H1 : (some 20) = some r := by rw [if_pos rfl] at H; exact H
  clear H
  have H := H1
  clear H1
  obtain rfl := Option.some.inj H
  go_enter Tryd.func63, Tryd.ntmps63
  go_wp2_with (first | (go_at_call 75; (with_reducible refine (slices_ContainsFunc__attrs_Right_1.calls k _ _ l0  true _ ?side1 ?side2 A2.out).mono ?_); (case side1 => exact ks HR0.out); (case side2 => exact HC0.out); rintro e w4 ⟨rfl, hb⟩; have HB := am (below_step (bl HB.out) hb); (try clear hb); (try clear hb2); (try clear hk); (try clear hi)))
  go_ret
  exact ⟨re, bl HB.out⟩
 replace c3 := Bool.eq_false_iff.mpr c3
 subst c3
 have H1 : ((attrs_Change.f k l0).bind fun t118 => (some t118)) = some r := by rw [if_neg (show ¬ (false = true) by decide)] at H; exact H
 clear H
 have H := H1
 clear H1
 replace H := Option.bind_eq_some_iff.mp H
 obtain ⟨t118, A50, H⟩ := H
 replace H : (some t118) = some r := H
 have A5 := am A50
 clear A50
 obtain rfl := Option.some.inj H
 go_enter Tryd.func63, Tryd.ntmps63
 go_wp2_with (first | (go_at_call 75; (with_reducible refine (slices_ContainsFunc__attrs_Right_1.calls k _ _ l0  false _ ?side1 ?side2 A2.out).mono ?_); (case side1 => exact ks HR0.out); (case side2 => exact HC0.out); rintro e w6 ⟨rfl, hb⟩; have HB := am (below_step (bl HB.out) hb); (try clear hb); (try clear hb2); (try clear hk); (try clear hi)) | ((with_reducible refine gate_callee (f := 64) rfl ?_); refine goesL_ (some 6) rfl rfl Tryd.func64 (by kernel_rfl) rfl #[.slice A0 l0.length c0] rfl (by (try simp only [List.map_toArray, List.map_cons, List.map_nil]); first | done | rfl | (simp only [List.length_drop, List.length_take]; rfl)) ?_; (with_reducible refine (attrs_Change.calls k _ _ l0 t118 _ ?side1 ?side2 A5.out).mono ?_); (case side1 => exact ks (Kd.C_below HR0.out HB.out)); (case side2 => exact HC0.out); rintro e w7 ⟨rfl, hb⟩; refine ⟨_, rfl, ?_⟩; have HB := am (below_step (bl HB.out) hb); (try clear hb); (try clear hb2); (try clear hk); (try clear hi)))
 go_ret
 exact ⟨re, bl HB.out⟩
end Go.Proofs.YtinbpjodheceoaaDoor.Sp
