/- Written by this session's programs (sprint.py, prune.py). -/
import Derived.Test.YtinbpjodheceoaaDoorXgSp0
import Derived.Test.YtinbpjodheceoaaDoorXgShelf
namespace Go.Proofs.YtinbpjodheceoaaDoor.Sp
open Go.RowKit Go.Proofs.YtinbpjodheceoaaDoorW.PrintWords Go.Proofs.YtinbpjodheceoaaDoorW.PrintLast Go.Proofs.YtinbpjodheceoaaDoorW.PrintMore
attribute [local go_sem] max2_int min2_int max_two min_two max_three min_three max_four min_four   -- for this text's walks alone
set_option linter.unusedVariables false
set_option linter.unusedSimpArgs false
attribute [local go_sem] own_leq own_gtr own_geq   -- for this text's walks alone
def change_shaped.f (a0_0 : Int) (a0_1 : Int) (a0_2 : ByteArray) (l0_3 : List (S90)) : Option (Bool) := if a0_0 = 2 then (if a0_1 = 0 then (some (a0_2.toList != ([] : List UInt8))) else (some false)) else (if a0_0 = 3 then (if a0_1 > 0 then (if a0_2.toList = ([] : List UInt8) then (some ((l0_3.length : Int) == 0)) else (some false)) else (some false)) else (if a0_0 = 1 then (if a0_1 > 0 then (some (a0_2.toList == ([] : List UInt8))) else (some false)) else (some false)))
set_option maxHeartbeats 8000000 in
set_option maxRecDepth 100000 in
theorem change_shaped.calls (a0_0 : Int) (a0_1 : Int) (a0_2 : ByteArray) (A0_3 : Option Addr) (c0_3 : Nat) (l0_3 : List (S90)) (r : Bool) (w : World) (hr0_3 : Kd.C k90 w A0_3 l0_3.length l0_3) (hc0_3 : l0_3.length ≤ c0_3) (h : change_shaped.f a0_0 a0_1 a0_2 l0_3 = some r) :
 Calls Tryd.prog 61 #[.agg #[.int .i64 a0_0, .int .i64 a0_1, .string a0_2, .slice A0_3 l0_3.length c0_3]] w fun e w' => e = .returned (.bool r) ∧ Below w.heap.size w w' := by
 have hu43 := Tryd.underlying43
 have HR0_3 := am hr0_3
 have HC0_3 := am hc0_3
 clear hr0_3 hc0_3
 have HB := am (Below.refl w.heap.size w)
 have H : (if a0_0 = 2 then (if a0_1 = 0 then (some (a0_2.toList != ([] : List UInt8))) else (some false)) else (if a0_0 = 3 then (if a0_1 > 0 then (if a0_2.toList = ([] : List UInt8) then (some ((l0_3.length : Int) == 0)) else (some false)) else (some false)) else (if a0_0 = 1 then (if a0_1 > 0 then (some (a0_2.toList == ([] : List UInt8))) else (some false)) else (some false)))) = some r := h
 clear h
 by_cases c2 : a0_0 = 2
 ·rw [if_pos c2] at H
  have c2b0 : (a0_0 == 2) = true := beq_iff_eq.mpr c2
  have c2b1 : (a0_0 != 2) = false := bne_eq_false_iff_eq.mpr c2
  clear c2
  by_cases c3 : a0_1 = 0
  ·rw [if_pos c3] at H
   have c3b0 : (a0_1 == 0) = true := beq_iff_eq.mpr c3
   have c3b1 : (a0_1 != 0) = false := bne_eq_false_iff_eq.mpr c3
   clear c3
   obtain rfl := Option.some.inj H
   go_enter Tryd.func61, Tryd.ntmps61
   go_wp2_with (first | ((with_reducible refine gate_dst (N := 1) rfl ?_); (try (refine gate_guard (by rfl) ?_; dsimp only)); refine bev #[.int .i64 a0_0, .int .i64 a0_1, .string a0_2, .slice A0_3 l0_3.length c0_3] 43 ?_; intro gb101 hg w4 hbox hb; have BK101 := am (hbox); have GW101 := am (szl hg (bl HB.out)); have GE101 := am (szl hg (bl HB.out)); have HB := am (below_step (bl HB.out) hb); clear hb hbox hg; obtain ⟨hcz5_0, hcz5_1, hcz5_2, hcz5_3, hfz5_0, hfz5_1, hfz5_2, hfz5_3⟩ := bc4 BK101.out))
   go_ret
   exact ⟨re, bl HB.out⟩
  rw [if_neg c3] at H
  have c3b0 : (a0_1 == 0) = false := beq_eq_false_iff_ne.mpr c3
  have c3b1 : (a0_1 != 0) = true := bne_iff_ne.mpr c3
  obtain rfl := Option.some.inj H
  go_enter Tryd.func61, Tryd.ntmps61
  go_wp2_with (first | ((with_reducible refine gate_dst (N := 1) rfl ?_); (try (refine gate_guard (by rfl) ?_; dsimp only)); refine bev #[.int .i64 a0_0, .int .i64 a0_1, .string a0_2, .slice A0_3 l0_3.length c0_3] 43 ?_; intro gb101 hg w6 hbox hb; have BK101 := am (hbox); have GW101 := am (szl hg (bl HB.out)); have GE101 := am (szl hg (bl HB.out)); have HB := am (below_step (bl HB.out) hb); clear hb hbox hg; obtain ⟨hcz7_0, hcz7_1, hcz7_2, hcz7_3, hfz7_0, hfz7_1, hfz7_2, hfz7_3⟩ := bc4 BK101.out))
  go_ret
  exact ⟨re, bl HB.out⟩
 rw [if_neg c2] at H
 have c2b0 : (a0_0 == 2) = false := beq_eq_false_iff_ne.mpr c2
 have c2b1 : (a0_0 != 2) = true := bne_iff_ne.mpr c2
 by_cases c8 : a0_0 = 3
 ·rw [if_pos c8] at H
  have c8b0 : (a0_0 == 3) = true := beq_iff_eq.mpr c8
  have c8b1 : (a0_0 != 3) = false := bne_eq_false_iff_eq.mpr c8
  clear c8
  by_cases c9 : a0_1 > 0
  ·rw [if_pos c9] at H
   have c9b0 : decide (0 < a0_1) = true := decide_eq_true c9
   clear c9
   by_cases c10 : a0_2.toList = ([] : List UInt8)
   ·rw [if_pos c10] at H
    have c10b0 : (a0_2.toList == ([] : List UInt8)) = true := beq_iff_eq.mpr c10
    have c10b1 : (a0_2.toList != ([] : List UInt8)) = false := bne_eq_false_iff_eq.mpr c10
    clear c10
    obtain rfl := Option.some.inj H
    go_enter Tryd.func61, Tryd.ntmps61
    go_wp2_with (first | ((with_reducible refine gate_dst (N := 1) rfl ?_); (try (refine gate_guard (by rfl) ?_; dsimp only)); refine bev #[.int .i64 a0_0, .int .i64 a0_1, .string a0_2, .slice A0_3 l0_3.length c0_3] 43 ?_; intro gb101 hg w11 hbox hb; have BK101 := am (hbox); have GW101 := am (szl hg (bl HB.out)); have GE101 := am (szl hg (bl HB.out)); have HB := am (below_step (bl HB.out) hb); clear hb hbox hg; obtain ⟨hcz12_0, hcz12_1, hcz12_2, hcz12_3, hfz12_0, hfz12_1, hfz12_2, hfz12_3⟩ := bc4 BK101.out))
    go_ret
    exact ⟨re, bl HB.out⟩
   rw [if_neg c10] at H
   have c10b0 : (a0_2.toList == ([] : List UInt8)) = false := beq_eq_false_iff_ne.mpr c10
   have c10b1 : (a0_2.toList != ([] : List UInt8)) = true := bne_iff_ne.mpr c10
   obtain rfl := Option.some.inj H
   go_enter Tryd.func61, Tryd.ntmps61
   go_wp2_with (first | ((with_reducible refine gate_dst (N := 1) rfl ?_); (try (refine gate_guard (by rfl) ?_; dsimp only)); refine bev #[.int .i64 a0_0, .int .i64 a0_1, .string a0_2, .slice A0_3 l0_3.length c0_3] 43 ?_; intro gb101 hg w13 hbox hb; have BK101 := am (hbox); have GW101 := am (szl hg (bl HB.out)); have GE101 := am (szl hg (bl HB.out)); have HB := am (below_step (bl HB.out) hb); clear hb hbox hg; obtain ⟨hcz14_0, hcz14_1, hcz14_2, hcz14_3, hfz14_0, hfz14_1, hfz14_2, hfz14_3⟩ := bc4 BK101.out))
   go_ret
   exact ⟨re, bl HB.out⟩
  rw [if_neg c9] at H
  have c9b0 : decide (0 < a0_1) = false := decide_eq_false c9
  clear c9
  obtain rfl := Option.some.inj H
  go_enter Tryd.func61, Tryd.ntmps61
  go_wp2_with (first | ((with_reducible refine gate_dst (N := 1) rfl ?_); (try (refine gate_guard (by rfl) ?_; dsimp only)); refine bev #[.int .i64 a0_0, .int .i64 a0_1, .string a0_2, .slice A0_3 l0_3.length c0_3] 43 ?_; intro gb101 hg w15 hbox hb; have BK101 := am (hbox); have GW101 := am (szl hg (bl HB.out)); have GE101 := am (szl hg (bl HB.out)); have HB := am (below_step (bl HB.out) hb); clear hb hbox hg; obtain ⟨hcz16_0, hcz16_1, hcz16_2, hcz16_3, hfz16_0, hfz16_1, hfz16_2, hfz16_3⟩ := bc4 BK101.out))
  go_ret
  exact ⟨re, bl HB.out⟩
 rw [if_neg c8] at H
 have c8b0 : (a0_0 == 3) = false := beq_eq_false_iff_ne.mpr c8
 have c8b1 : (a0_0 != 3) = true := bne_iff_ne.mpr c8
 by_cases c17 : a0_0 = 1
 ·rw [if_pos c17] at H
  have c17b0 : (a0_0 == 1) = true := beq_iff_eq.mpr c17
  have c17b1 : (a0_0 != 1) = false := bne_eq_false_iff_eq.mpr c17
  clear c17
  by_cases c18 : a0_1 > 0
  ·rw [if_pos c18] at H
   have c18b0 : decide (0 < a0_1) = true := decide_eq_true c18
   clear c18
   obtain rfl := Option.some.inj H
   go_enter Tryd.func61, Tryd.ntmps61
   go_wp2_with (first | ((with_reducible refine gate_dst (N := 1) rfl ?_); (try (refine gate_guard (by rfl) ?_; dsimp only)); refine bev #[.int .i64 a0_0, .int .i64 a0_1, .string a0_2, .slice A0_3 l0_3.length c0_3] 43 ?_; intro gb101 hg w19 hbox hb; have BK101 := am (hbox); have GW101 := am (szl hg (bl HB.out)); have GE101 := am (szl hg (bl HB.out)); have HB := am (below_step (bl HB.out) hb); clear hb hbox hg; obtain ⟨hcz20_0, hcz20_1, hcz20_2, hcz20_3, hfz20_0, hfz20_1, hfz20_2, hfz20_3⟩ := bc4 BK101.out))
   go_ret
   exact ⟨re, bl HB.out⟩
  rw [if_neg c18] at H
  have c18b0 : decide (0 < a0_1) = false := decide_eq_false c18
  clear c18
  obtain rfl := Option.some.inj H
  go_enter Tryd.func61, Tryd.ntmps61
  go_wp2_with (first | ((with_reducible refine gate_dst (N := 1) rfl ?_); (try (refine gate_guard (by rfl) ?_; dsimp only)); refine bev #[.int .i64 a0_0, .int .i64 a0_1, .string a0_2, .slice A0_3 l0_3.length c0_3] 43 ?_; intro gb101 hg w21 hbox hb; have BK101 := am (hbox); have GW101 := am (szl hg (bl HB.out)); have GE101 := am (szl hg (bl HB.out)); have HB := am (below_step (bl HB.out) hb); clear hb hbox hg; obtain ⟨hcz22_0, hcz22_1, hcz22_2, hcz22_3, hfz22_0, hfz22_1, hfz22_2, hfz22_3⟩ := bc4 BK101.out))
  go_ret
  exact ⟨re, bl HB.out⟩
 rw [if_neg c17] at H
 have c17b0 : (a0_0 == 1) = false := beq_eq_false_iff_ne.mpr c17
 have c17b1 : (a0_0 != 1) = true := bne_iff_ne.mpr c17
 obtain rfl := Option.some.inj H
 go_enter Tryd.func61, Tryd.ntmps61
 go_wp2_with (first | ((with_reducible refine gate_dst (N := 1) rfl ?_); (try (refine gate_guard (by rfl) ?_; dsimp only)); refine bev #[.int .i64 a0_0, .int .i64 a0_1, .string a0_2, .slice A0_3 l0_3.length c0_3] 43 ?_; intro gb101 hg w23 hbox hb; have BK101 := am (hbox); have GW101 := am (szl hg (bl HB.out)); have GE101 := am (szl hg (bl HB.out)); have HB := am (below_step (bl HB.out) hb); clear hb hbox hg; obtain ⟨hcz24_0, hcz24_1, hcz24_2, hcz24_3, hfz24_0, hfz24_1, hfz24_2, hfz24_3⟩ := bc4 BK101.out))
 go_ret
 exact ⟨re, bl HB.out⟩
def Tabs (w : World) : Prop := Lib.Utf8Tabs 0 1 w
theorem Tabs.below {w w1 : World} (h : Tabs w) (hb : Below w.heap.size w w1) : Tabs w1 := Utf8Tabs_below h hb
def utf8_RuneCountInString.f (a0 : ByteArray) : Option Int := if a0.size < 9223372036854775807 then some (Lib.runeCount a0) else none
theorem below_iter (w : World) (s : ByteArray) (p : Nat) : Below w.heap.size w (w.iter s p) := by
 unfold World.iter
 exact below_alloc (Below.refl _ _) _
theorem utf8_RuneCountInString.calls (a0 : ByteArray) (r : Int) (w : World) (h : utf8_RuneCountInString.f a0 = some r) :
 Calls Tryd.prog 73 #[.string a0] w fun e w' => e = .returned (.int .i64 r) ∧ Below w.heap.size w w' := by
 unfold utf8_RuneCountInString.f at h
 by_cases hs : a0.size < 9223372036854775807
 ·rw [if_pos hs] at h
  obtain rfl := Option.some.inj h
  refine (Tryd.utf8_RuneCountInString a0 w hs).mono ?_
  rintro e w' ⟨rfl, pos, rfl⟩
  exact ⟨rfl, below_iter w a0 pos⟩
 rw [if_neg hs] at h
 cases h
def utf8_ValidString.f (a0 : ByteArray) : Option Bool := if a0.size ≤ 9223372036854775807 then some (Lib.validD a0.data.toList) else none
theorem utf8_ValidString.calls (a0 : ByteArray) (r : Bool) (w : World) (hT_ : Tabs w) (h : utf8_ValidString.f a0 = some r) :
 Calls Tryd.prog 74 #[.string a0] w fun e w' => e = .returned (.bool r) ∧ Below w.heap.size w w' := by
 unfold utf8_ValidString.f at h
 by_cases hs : a0.size ≤ 9223372036854775807
 ·rw [if_pos hs] at h
  obtain rfl := Option.some.inj h
  exact Any.utf8_ValidString Tryd.laysValid a0 w hs hT_
 rw [if_neg hs] at h
 cases h
def runes_Count.j0 : Nat → Int → Bool → Option (Int × Int)
 | 0, _, _ => none
 | k + 1, x4, x13 => if x13 = true then (some (0, 10)) else (some (x4, 0))
def runes_Count.f (k : Nat) (a0 : ByteArray) : Option (Int × Int) := (utf8_RuneCountInString.f a0).bind fun t102 => ((utf8_ValidString.f a0).bind fun t103 => (if t103 = true then (runes_Count.j0 k t102 (decide (t102 > 20000))) else (runes_Count.j0 k t102 true)))
theorem runes_Count.mono_l : ∀ k, (∀ y0 y1, LeO (runes_Count.j0 k y0 y1) (runes_Count.j0 (k + 1) y0 y1))
 | 0 => fun _ _ r h => by simp [runes_Count.j0] at h
 | k + 1 => by
  have ih0 := runes_Count.mono_l k
  intro y0 y1
  unfold runes_Count.j0
  exact lo
theorem runes_Count.mono : ∀ a0 k, LeO (runes_Count.f k a0) (runes_Count.f (k + 1) a0) := by
 intro a0 k
 have ih0 := runes_Count.mono_l k
 unfold runes_Count.f
 exact lo
set_option maxHeartbeats 8000000 in
set_option maxRecDepth 100000 in
theorem runes_Count.calls (k : Nat) (a0 : ByteArray) (r1 : Int) (r2 : Int) (w : World) (hT_ : Tabs w) (h : runes_Count.f k a0 = some (r1, r2)) :
 Calls Tryd.prog 62 #[.string a0] w fun e w' => e = .returned (.tuple #[.int .i64 r1, .int .i64 r2]) ∧ Below w.heap.size w w' := by
 have HT_ := am hT_
 clear hT_
 have HB := am (Below.refl w.heap.size w)
 have H : ((utf8_RuneCountInString.f a0).bind fun t102 => ((utf8_ValidString.f a0).bind fun t103 => (if t103 = true then (runes_Count.j0 k t102 (decide (t102 > 20000))) else (runes_Count.j0 k t102 true)))) = some (r1, r2) := h
 clear h
 replace H := Option.bind_eq_some_iff.mp H
 obtain ⟨t102, A20, H⟩ := H
 replace H : ((utf8_ValidString.f a0).bind fun t103 => (if t103 = true then (runes_Count.j0 k t102 (decide (t102 > 20000))) else (runes_Count.j0 k t102 true))) = some (r1, r2) := H
 have A2 := am A20
 clear A20
 have HC3 := am H
 clear H
 go_enter Tryd.func62, Tryd.ntmps62
 go_upto_region 2 with (first | ((with_reducible refine gate_callee (f := 73) rfl ?_); refine goesL_ (some 6) rfl rfl Tryd.func73 (by kernel_rfl) rfl #[.string a0] rfl (by (try simp only [List.map_toArray, List.map_cons, List.map_nil]); first | done | rfl | (simp only [List.length_drop, List.length_take]; rfl)) ?_; (with_reducible refine (utf8_RuneCountInString.calls a0 t102 _ A2.out).mono ?_); rintro e w4 ⟨rfl, hb⟩; refine ⟨_, rfl, ?_⟩; have HB := am (below_step (bl HB.out) hb); (try clear hb); (try clear hb2); (try clear hk); (try clear hi)))
 (try simp only [Act.put, List.setIfInBounds_toArray, List.set_cons_zero, List.set_cons_succ])
 go_cut [13] (fun v13 wc => ∃ (kq : Nat) (x13_2 : Bool), v13 = .bool x13_2 ∧ Aside0 (runes_Count.j0 kq t102 x13_2 = some (r1, r2)) ∧ Aside0 (kq ≤ k) ∧ Aside0 (Below w.heap.size w wc))
 case first =>
  have H := HC3.out
  clear HC3
  replace H := Option.bind_eq_some_iff.mp H
  obtain ⟨t103, A50, H⟩ := H
  replace H : (if t103 = true then (runes_Count.j0 k t102 (decide (t102 > 20000))) else (runes_Count.j0 k t102 true)) = some (r1, r2) := H
  have A5 := am A50
  clear A50
  by_cases c6 : t103 = true
  ·subst c6
   have H1 : (runes_Count.j0 k t102 (decide (t102 > 20000))) = some (r1, r2) := by rw [if_pos rfl] at H; exact H
   clear H
   have H := H1
   clear H1
   have H' := am H
   clear H
   go_wp2_with (first | ((with_reducible refine gate_callee (f := 74) rfl ?_); refine goesL_ (some 8) rfl rfl Tryd.func74 (by kernel_rfl) rfl #[.string a0] rfl (by (try simp only [List.map_toArray, List.map_cons, List.map_nil]); first | done | rfl | (simp only [List.length_drop, List.length_take]; rfl)) ?_; (with_reducible refine (utf8_ValidString.calls a0 true _ ?side1 A5.out).mono ?_); (case side1 => exact Tabs.below HT_.out (bl HB.out)); rintro e w7 ⟨rfl, hb⟩; refine ⟨_, rfl, ?_⟩; have HB := am (below_step (bl HB.out) hb); (try clear hb); (try clear hb2); (try clear hk); (try clear hi)))
   go_meet
   case rel => exact ⟨_, (decide (t102 > 20000)), (rs), H', ⟨by first | omega | exact Nat.le_refl _⟩, ⟨bl HB.out⟩⟩
  replace c6 := Bool.eq_false_iff.mpr c6
  subst c6
  have H1 : (runes_Count.j0 k t102 true) = some (r1, r2) := by rw [if_neg (show ¬ (false = true) by decide)] at H; exact H
  clear H
  have H := H1
  clear H1
  have H' := am H
  clear H
  go_wp2_with (first | ((with_reducible refine gate_callee (f := 74) rfl ?_); refine goesL_ (some 8) rfl rfl Tryd.func74 (by kernel_rfl) rfl #[.string a0] rfl (by (try simp only [List.map_toArray, List.map_cons, List.map_nil]); first | done | rfl | (simp only [List.length_drop, List.length_take]; rfl)) ?_; (with_reducible refine (utf8_ValidString.calls a0 false _ ?side1 A5.out).mono ?_); (case side1 => exact Tabs.below HT_.out (bl HB.out)); rintro e w8 ⟨rfl, hb⟩; refine ⟨_, rfl, ?_⟩; have HB := am (below_step (bl HB.out) hb); (try clear hb); (try clear hb2); (try clear hk); (try clear hi)))
  go_meet
  case rel => exact ⟨_, (true), (rs), H', ⟨by first | omega | exact Nat.le_refl _⟩, ⟨bl HB.out⟩⟩
 case rest =>
  clear HC3
  try clear p2; try clear c6; try clear c7
  obtain ⟨kq, x13_2, rfl, HA, HJ2, HB⟩ := hcut
  cases kq with
  | zero => exact absurd HA.out (by simp [runes_Count.j0])
  | succ kj2 =>
   have H := HA.out
   clear HA
   simp only [runes_Count.j0] at H
   by_cases c9 : x13_2 = true
   ·subst c9
    have H1 : (some (0, 10)) = some (r1, r2) := by rw [if_pos rfl] at H; exact H
    clear H
    have H := H1
    clear H1
    simp only [Option.some.injEq, Prod.mk.injEq] at H
    obtain ⟨rfl, rfl⟩ := H
    go_wp2
    go_ret2
    exact ⟨re, bl HB.out⟩
   replace c9 := Bool.eq_false_iff.mpr c9
   subst c9
   have H1 : (some (t102, 0)) = some (r1, r2) := by rw [if_neg (show ¬ (false = true) by decide)] at H; exact H
   clear H
   have H := H1
   clear H1
   simp only [Option.some.injEq, Prod.mk.injEq] at H
   obtain ⟨rfl, rfl⟩ := H
   go_wp2
   go_ret2
   exact ⟨re, bl HB.out⟩
def strings_IndexByte.f (a0 : ByteArray) (a1 : Int) : Option Int := some (Lib.indexByte a0.data.toList a1.toNat.toUInt8)
theorem strings_IndexByte.calls (a0 : ByteArray) (a1 : Int) (r : Int) (w : World) (h : strings_IndexByte.f a0 a1 = some r) :
 Calls Tryd.prog 86 #[.string a0, .int .u8 a1] w fun e w' => e = .returned (.int .i64 r) ∧ Drawn0 w w' := by
 simp only [strings_IndexByte.f, Option.some.injEq] at h
 subst h
 refine (Tryd.strings_IndexByte a0 a1 w).mono ?_
 rintro e w' ⟨rfl, rfl⟩
 exact ⟨rfl, Drawn0.refl _⟩
def attrs_among.f (a0 : Int) (a1 : ByteArray) : Option (Bool) := (strings_IndexByte.f a1 a0).bind fun t104 => (some (decide (t104 ≥ 0)))
set_option maxHeartbeats 8000000 in
set_option maxRecDepth 100000 in
theorem attrs_among.calls (a0 : Int) (a1 : ByteArray) (r : Bool) (w : World) (h : attrs_among.f a0 a1 = some r) :
 Calls Tryd.prog 79 #[.int .u8 a0, .string a1] w fun e w' => e = .returned (.bool r) ∧ Drawn0 w w' := by
 have H : ((strings_IndexByte.f a1 a0).bind fun t104 => (some (decide (t104 ≥ 0)))) = some r := h
 clear h
 replace H := Option.bind_eq_some_iff.mp H
 obtain ⟨t104, A30, H⟩ := H
 replace H : (some (decide (t104 ≥ 0))) = some r := H
 have A3 := am A30
 clear A30
 obtain rfl := Option.some.inj H
 go_enter Tryd.func79, Tryd.ntmps79
 go_wp2_with (first | ((with_reducible refine gate_callee (f := 86) rfl ?_); refine goesL_ (some 7) rfl rfl Tryd.func86 (by kernel_rfl) rfl #[.string a1, .int .u8 a0] rfl (by (try simp only [List.map_toArray, List.map_cons, List.map_nil]); first | done | rfl | (simp only [List.length_drop, List.length_take]; rfl)) ?_; (with_reducible refine (strings_IndexByte.calls a1 a0 t104 _ A3.out).mono ?_); rintro e w' ⟨rfl, ⟨nd, rfl⟩⟩; refine ⟨_, rfl, ?_⟩))
 go_ret
 exact ⟨rs, dw⟩
def attrs_Change_1.f (a0 : Int) : Option (Bool) := (attrs_among.f a0 (⟨#[65, 66, 67, 68, 69, 70, 71, 72, 73, 74, 75, 76, 77, 78, 79, 80, 81, 82, 83, 84, 85, 86, 87, 88, 89, 90, 97, 98, 99, 100, 101, 102, 103, 104, 105, 106, 107, 108, 109, 110, 111, 112, 113, 114, 115, 116, 117, 118, 119, 120, 121, 122, 48, 49, 50, 51, 52, 53, 54, 55, 56, 57, 45, 95]⟩ : ByteArray)).bind fun t105 => (some t105)
set_option maxHeartbeats 8000000 in
set_option maxRecDepth 100000 in
theorem attrs_Change_1.calls (a0 : Int) (r : Bool) (w : World) (h : attrs_Change_1.f a0 = some r) :
 Calls Tryd.prog 78 #[.int .u8 a0] w fun e w' => e = .returned (.bool r) ∧ Drawn0 w w' := by
 have H : ((attrs_among.f a0 (⟨#[65, 66, 67, 68, 69, 70, 71, 72, 73, 74, 75, 76, 77, 78, 79, 80, 81, 82, 83, 84, 85, 86, 87, 88, 89, 90, 97, 98, 99, 100, 101, 102, 103, 104, 105, 106, 107, 108, 109, 110, 111, 112, 113, 114, 115, 116, 117, 118, 119, 120, 121, 122, 48, 49, 50, 51, 52, 53, 54, 55, 56, 57, 45, 95]⟩ : ByteArray)).bind fun t105 => (some t105)) = some r := h
 clear h
 replace H := Option.bind_eq_some_iff.mp H
 obtain ⟨t105, A20, H⟩ := H
 replace H : (some t105) = some r := H
 have A2 := am A20
 clear A20
 obtain rfl := Option.some.inj H
 go_enter Tryd.func78, Tryd.ntmps78
 go_wp2_with (first | ((with_reducible refine gate_callee (f := 79) rfl ?_); refine goesL_ (some 4) rfl rfl Tryd.func79 (by kernel_rfl) rfl #[.int .u8 a0, .string (⟨#[65, 66, 67, 68, 69, 70, 71, 72, 73, 74, 75, 76, 77, 78, 79, 80, 81, 82, 83, 84, 85, 86, 87, 88, 89, 90, 97, 98, 99, 100, 101, 102, 103, 104, 105, 106, 107, 108, 109, 110, 111, 112, 113, 114, 115, 116, 117, 118, 119, 120, 121, 122, 48, 49, 50, 51, 52, 53, 54, 55, 56, 57, 45, 95]⟩ : ByteArray)] rfl (by (try simp only [List.map_toArray, List.map_cons, List.map_nil]); first | done | rfl | (simp only [List.length_drop, List.length_take]; rfl)) ?_; (with_reducible refine (attrs_among.calls a0 (⟨#[65, 66, 67, 68, 69, 70, 71, 72, 73, 74, 75, 76, 77, 78, 79, 80, 81, 82, 83, 84, 85, 86, 87, 88, 89, 90, 97, 98, 99, 100, 101, 102, 103, 104, 105, 106, 107, 108, 109, 110, 111, 112, 113, 114, 115, 116, 117, 118, 119, 120, 121, 122, 48, 49, 50, 51, 52, 53, 54, 55, 56, 57, 45, 95]⟩ : ByteArray) t105 _ A2.out).mono ?_); rintro e w' ⟨rfl, ⟨nd, rfl⟩⟩; refine ⟨_, rfl, ?_⟩))
 go_ret
 exact ⟨rs, dw⟩
def attrs_made__attrs_Change_1.l0 : Nat → ByteArray → Int → Int → Int → Option (Bool)
 | 0, _, _, _, _ => none
 | k + 1, x0, x1, x9, x10 => if x10 < x9 then (if 0 ≤ x10 then (if x10 < (x0.size : Int) then ((attrs_Change_1.f (bt x0 x10)).bind fun t106 => (if t106 = true then (attrs_made__attrs_Change_1.l0 k x0 x1 x9 (wrap64 (x10 + 1))) else (some false))) else (none)) else (none)) else (some (decide ((x0.size : Int) ≤ x1)))
def attrs_made__attrs_Change_1.f (k : Nat) (a0 : ByteArray) (a1 : Int)  : Option (Bool) := attrs_made__attrs_Change_1.l0 k a0 a1 (a0.size : Int) 0
theorem attrs_made__attrs_Change_1.mono_l : ∀ k, (∀ y0 y1 y2 y3, LeO (attrs_made__attrs_Change_1.l0 k y0 y1 y2 y3) (attrs_made__attrs_Change_1.l0 (k + 1) y0 y1 y2 y3))
 | 0 => fun _ _ _ _ r h => by simp [attrs_made__attrs_Change_1.l0] at h
 | k + 1 => by
  have ih0 := attrs_made__attrs_Change_1.mono_l k
  intro y0 y1 y2 y3
  unfold attrs_made__attrs_Change_1.l0
  exact lo
theorem attrs_made__attrs_Change_1.mono : ∀ a0 a1 k, LeO (attrs_made__attrs_Change_1.f k a0 a1) (attrs_made__attrs_Change_1.f (k + 1) a0 a1) := by
 intro a0 a1 k
 have ih0 := attrs_made__attrs_Change_1.mono_l k
 unfold attrs_made__attrs_Change_1.f
 exact lo
set_option maxHeartbeats 8000000 in
set_option maxRecDepth 100000 in
theorem attrs_made__attrs_Change_1.calls (k : Nat) (a0 : ByteArray) (a1 : Int)  (r : Bool) (w : World) (h : attrs_made__attrs_Change_1.f k a0 a1 = some r) :
 Calls Tryd.prog 77 #[.string a0, .int .i64 a1, .func (.func (78 : Nat)) #[] #[]] w fun e w' => e = .returned (.bool r) ∧ Drawn0 w w' := by
 have H : (attrs_made__attrs_Change_1.l0 k a0 a1 (a0.size : Int) 0) = some r := h
 clear h
 have H' := am H
 clear H
 go_enter Tryd.func77, Tryd.ntmps77
 go_wp2
 go_loopg [10] k (fun kq v10 w' => ∃ (x10_1 : Int), v10 = .int .i64 x10_1 ∧ Aside0 (attrs_made__attrs_Change_1.l0 kq a0 a1 (a0.size : Int) x10_1 = some r) ∧ Aside0 (kq ≤ k) ∧ Drawn0 w w')
 case atStart => exact ⟨(0), (rs), H', ⟨Nat.le_refl _⟩, dw⟩
 case round =>
  clear H'
  try clear p2
  obtain ⟨x10_1, rfl, HA, HK1, ⟨m1, rfl⟩⟩ := hrel
  cases gk with
  | zero => exact absurd HA.out (by simp [attrs_made__attrs_Change_1.l0])
  | succ k1 =>
   have H := HA.out
   clear HA
   simp only [attrs_made__attrs_Change_1.l0] at H
   by_cases c4 : x10_1 < (a0.size : Int)
   ·rw [if_pos c4] at H
    have c4b0 : decide (x10_1 < (a0.size : Int)) = true := decide_eq_true c4
    clear c4
    by_cases c5 : 0 ≤ x10_1
    ·rw [if_pos c5] at H
     have c5b0 : decide (0 ≤ x10_1) = true := decide_eq_true c5
     clear c5
     by_cases c6 : x10_1 < (a0.size : Int)
     ·rw [if_pos c6] at H
      have c6b0 : decide (x10_1 < (a0.size : Int)) = true := decide_eq_true c6
      clear c6
      replace H := Option.bind_eq_some_iff.mp H
      obtain ⟨t106, A80, H⟩ := H
      replace H : (if t106 = true then (attrs_made__attrs_Change_1.l0 k1 a0 a1 (a0.size : Int) (wrap64 (x10_1 + 1))) else (some false)) = some r := H
      have A8 := am A80
      clear A80
      by_cases c9 : t106 = true
      ·subst c9
       have H1 : (attrs_made__attrs_Change_1.l0 k1 a0 a1 (a0.size : Int) (wrap64 (x10_1 + 1))) = some r := by rw [if_pos rfl] at H; exact H
       clear H
       have H := H1
       clear H1
       have H' := am H
       clear H
       have p7 : 0 ≤ (x10_1 : Int) := oda
       have q7 : x10_1 < (a0.size : Int) := oda
       have hx7 := bt_at a0 x10_1
       replace p7 := eq_true p7
       replace q7 := eq_true q7
       go_wp2_with (first | (go_at_call 78; (with_reducible refine (attrs_Change_1.calls (bt a0 x10_1) true _ A8.out).mono ?_); rintro e w' ⟨rfl, ⟨nd, rfl⟩⟩))
       go_roundg k1
       case measure => have := HK1.out; omega
       case rel => exact ⟨(wrap64 (x10_1 + 1)), (rs), H', ⟨by have := HK1.out; omega⟩, dw⟩
      replace c9 := Bool.eq_false_iff.mpr c9
      subst c9
      have H1 : (some false) = some r := by rw [if_neg (show ¬ (false = true) by decide)] at H; exact H
      clear H
      have H := H1
      clear H1
      obtain rfl := Option.some.inj H
      have p7 : 0 ≤ (x10_1 : Int) := oda
      have q7 : x10_1 < (a0.size : Int) := oda
      have hx7 := bt_at a0 x10_1
      replace p7 := eq_true p7
      replace q7 := eq_true q7
      go_wp2_with (first | (go_at_call 78; (with_reducible refine (attrs_Change_1.calls (bt a0 x10_1) false _ A8.out).mono ?_); rintro e w' ⟨rfl, ⟨nd, rfl⟩⟩))
      go_ret
      exact ⟨rs, dw⟩
     rw [if_neg c6] at H
     exact absurd H (by simp)
    rw [if_neg c5] at H
    exact absurd H (by simp)
   rw [if_neg c4] at H
   have c4b0 : decide (x10_1 < (a0.size : Int)) = false := decide_eq_false c4
   clear c4
   obtain rfl := Option.some.inj H
   go_wp2
   go_ret
   exact ⟨rs, dw⟩
def attrs_Change_2.f (a0 : Int) : Option (Bool) := if 32 ≤ a0 then (some (decide (a0 ≤ 126))) else (some false)
set_option maxHeartbeats 8000000 in
set_option maxRecDepth 100000 in
theorem attrs_Change_2.calls (a0 : Int) (r : Bool) (w : World) (h : attrs_Change_2.f a0 = some r) :
 Calls Tryd.prog 80 #[.int .u8 a0] w fun e w' => e = .returned (.bool r) ∧ Drawn0 w w' := by
 have H : (if 32 ≤ a0 then (some (decide (a0 ≤ 126))) else (some false)) = some r := h
 clear h
 by_cases c2 : 32 ≤ a0
 ·rw [if_pos c2] at H
  have c2b0 : decide (32 ≤ a0) = true := decide_eq_true c2
  clear c2
  obtain rfl := Option.some.inj H
  go_enter Tryd.func80, Tryd.ntmps80
  go_wp2
  go_ret
  exact ⟨rs, dw⟩
 rw [if_neg c2] at H
 have c2b0 : decide (32 ≤ a0) = false := decide_eq_false c2
 clear c2
 obtain rfl := Option.some.inj H
 go_enter Tryd.func80, Tryd.ntmps80
 go_wp2
 go_ret
 exact ⟨rs, dw⟩
def attrs_made__attrs_Change_2.l0 : Nat → ByteArray → Int → Int → Int → Option (Bool)
 | 0, _, _, _, _ => none
 | k + 1, x0, x1, x9, x10 => if x10 < x9 then (if 0 ≤ x10 then (if x10 < (x0.size : Int) then ((attrs_Change_2.f (bt x0 x10)).bind fun t107 => (if t107 = true then (attrs_made__attrs_Change_2.l0 k x0 x1 x9 (wrap64 (x10 + 1))) else (some false))) else (none)) else (none)) else (some (decide ((x0.size : Int) ≤ x1)))
def attrs_made__attrs_Change_2.f (k : Nat) (a0 : ByteArray) (a1 : Int)  : Option (Bool) := attrs_made__attrs_Change_2.l0 k a0 a1 (a0.size : Int) 0
theorem attrs_made__attrs_Change_2.mono_l : ∀ k, (∀ y0 y1 y2 y3, LeO (attrs_made__attrs_Change_2.l0 k y0 y1 y2 y3) (attrs_made__attrs_Change_2.l0 (k + 1) y0 y1 y2 y3))
 | 0 => fun _ _ _ _ r h => by simp [attrs_made__attrs_Change_2.l0] at h
 | k + 1 => by
  have ih0 := attrs_made__attrs_Change_2.mono_l k
  intro y0 y1 y2 y3
  unfold attrs_made__attrs_Change_2.l0
  exact lo
theorem attrs_made__attrs_Change_2.mono : ∀ a0 a1 k, LeO (attrs_made__attrs_Change_2.f k a0 a1) (attrs_made__attrs_Change_2.f (k + 1) a0 a1) := by
 intro a0 a1 k
 have ih0 := attrs_made__attrs_Change_2.mono_l k
 unfold attrs_made__attrs_Change_2.f
 exact lo
set_option maxHeartbeats 8000000 in
set_option maxRecDepth 100000 in
theorem attrs_made__attrs_Change_2.calls (k : Nat) (a0 : ByteArray) (a1 : Int)  (r : Bool) (w : World) (h : attrs_made__attrs_Change_2.f k a0 a1 = some r) :
 Calls Tryd.prog 77 #[.string a0, .int .i64 a1, .func (.func (80 : Nat)) #[] #[]] w fun e w' => e = .returned (.bool r) ∧ Drawn0 w w' := by
 have H : (attrs_made__attrs_Change_2.l0 k a0 a1 (a0.size : Int) 0) = some r := h
 clear h
 have H' := am H
 clear H
 go_enter Tryd.func77, Tryd.ntmps77
 go_wp2
 go_loopg [10] k (fun kq v10 w' => ∃ (x10_1 : Int), v10 = .int .i64 x10_1 ∧ Aside0 (attrs_made__attrs_Change_2.l0 kq a0 a1 (a0.size : Int) x10_1 = some r) ∧ Aside0 (kq ≤ k) ∧ Drawn0 w w')
 case atStart => exact ⟨(0), (rs), H', ⟨Nat.le_refl _⟩, dw⟩
 case round =>
  clear H'
  try clear p2
  obtain ⟨x10_1, rfl, HA, HK1, ⟨m1, rfl⟩⟩ := hrel
  cases gk with
  | zero => exact absurd HA.out (by simp [attrs_made__attrs_Change_2.l0])
  | succ k1 =>
   have H := HA.out
   clear HA
   simp only [attrs_made__attrs_Change_2.l0] at H
   by_cases c4 : x10_1 < (a0.size : Int)
   ·rw [if_pos c4] at H
    have c4b0 : decide (x10_1 < (a0.size : Int)) = true := decide_eq_true c4
    clear c4
    by_cases c5 : 0 ≤ x10_1
    ·rw [if_pos c5] at H
     have c5b0 : decide (0 ≤ x10_1) = true := decide_eq_true c5
     clear c5
     by_cases c6 : x10_1 < (a0.size : Int)
     ·rw [if_pos c6] at H
      have c6b0 : decide (x10_1 < (a0.size : Int)) = true := decide_eq_true c6
      clear c6
      replace H := Option.bind_eq_some_iff.mp H
      obtain ⟨t107, A80, H⟩ := H
      replace H : (if t107 = true then (attrs_made__attrs_Change_2.l0 k1 a0 a1 (a0.size : Int) (wrap64 (x10_1 + 1))) else (some false)) = some r := H
      have A8 := am A80
      clear A80
      by_cases c9 : t107 = true
      ·subst c9
       have H1 : (attrs_made__attrs_Change_2.l0 k1 a0 a1 (a0.size : Int) (wrap64 (x10_1 + 1))) = some r := by rw [if_pos rfl] at H; exact H
       clear H
       have H := H1
       clear H1
       have H' := am H
       clear H
       have p7 : 0 ≤ (x10_1 : Int) := oda
       have q7 : x10_1 < (a0.size : Int) := oda
       have hx7 := bt_at a0 x10_1
       replace p7 := eq_true p7
       replace q7 := eq_true q7
       go_wp2_with (first | (go_at_call 80; (with_reducible refine (attrs_Change_2.calls (bt a0 x10_1) true _ A8.out).mono ?_); rintro e w' ⟨rfl, ⟨nd, rfl⟩⟩))
       go_roundg k1
       case measure => have := HK1.out; omega
       case rel => exact ⟨(wrap64 (x10_1 + 1)), (rs), H', ⟨by have := HK1.out; omega⟩, dw⟩
      replace c9 := Bool.eq_false_iff.mpr c9
      subst c9
      have H1 : (some false) = some r := by rw [if_neg (show ¬ (false = true) by decide)] at H; exact H
      clear H
      have H := H1
      clear H1
      obtain rfl := Option.some.inj H
      have p7 : 0 ≤ (x10_1 : Int) := oda
      have q7 : x10_1 < (a0.size : Int) := oda
      have hx7 := bt_at a0 x10_1
      replace p7 := eq_true p7
      replace q7 := eq_true q7
      go_wp2_with (first | (go_at_call 80; (with_reducible refine (attrs_Change_2.calls (bt a0 x10_1) false _ A8.out).mono ?_); rintro e w' ⟨rfl, ⟨nd, rfl⟩⟩))
      go_ret
      exact ⟨rs, dw⟩
     rw [if_neg c6] at H
     exact absurd H (by simp)
    rw [if_neg c5] at H
    exact absurd H (by simp)
   rw [if_neg c4] at H
   have c4b0 : decide (x10_1 < (a0.size : Int)) = false := decide_eq_false c4
   clear c4
   obtain rfl := Option.some.inj H
   go_wp2
   go_ret
   exact ⟨rs, dw⟩
end Go.Proofs.YtinbpjodheceoaaDoor.Sp
