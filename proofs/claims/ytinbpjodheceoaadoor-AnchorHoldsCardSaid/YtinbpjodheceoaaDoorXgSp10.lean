/- Written by this session's programs (sprint.py, prune.py). -/
import Derived.Test.YtinbpjodheceoaaDoorXgSp0
import Derived.Test.YtinbpjodheceoaaDoorXgSp2
namespace Go.Proofs.YtinbpjodheceoaaDoor.Sp
open Go.RowKit Go.Proofs.YtinbpjodheceoaaDoorW.PrintWords Go.Proofs.YtinbpjodheceoaaDoorW.PrintLast Go.Proofs.YtinbpjodheceoaaDoorW.PrintMore
attribute [local go_sem] max2_int min2_int max_two min_two max_three min_three max_four min_four   -- for this text's walks alone
set_option linter.unusedVariables false
set_option linter.unusedSimpArgs false
attribute [local go_sem high] eqA90
attribute [local go_sem] own_leq own_gtr own_geq   -- for this text's walks alone
def slices_Equal.l0 : Nat → List (S90) → List (S90) → Int → Int → Option (Bool)
 | 0, _, _, _, _ => none
 | k + 1, x0, x1, x12, x13 => if x13 < x12 then (if 0 ≤ x13 then (if x13 < (x0.length : Int) then (if x13 < (x1.length : Int) then (if (!((((rd_T90 x0 x13).f0).toList) == (((rd_T90 x1 x13).f0).toList)) || (!((((rd_T90 x0 x13).f1).toList) == (((rd_T90 x1 x13).f1).toList)))) = true then (some false) else (slices_Equal.l0 k x0 x1 x12 (wrap64 (x13 + 1)))) else (none)) else (none)) else (none)) else (some true)
def slices_Equal.f (k : Nat) (l0 : List (S90)) (l1 : List (S90)) : Option (Bool) := if (l0.length : Int) = (l1.length : Int) then (slices_Equal.l0 k l0 l1 (l0.length : Int) 0) else (some false)
theorem slices_Equal.mono_l : ∀ k, (∀ y0 y1 y2 y3, LeO (slices_Equal.l0 k y0 y1 y2 y3) (slices_Equal.l0 (k + 1) y0 y1 y2 y3))
 | 0 => fun _ _ _ _ r h => by simp [slices_Equal.l0] at h
 | k + 1 => by
  have ih0 := slices_Equal.mono_l k
  intro y0 y1 y2 y3
  unfold slices_Equal.l0
  exact lo
theorem slices_Equal.mono : ∀ a0 a1 k, LeO (slices_Equal.f k a0 a1) (slices_Equal.f (k + 1) a0 a1) := by
 intro a0 a1 k
 have ih0 := slices_Equal.mono_l k
 unfold slices_Equal.f
 exact lo
set_option maxHeartbeats 8000000 in
set_option maxRecDepth 100000 in
theorem slices_Equal.calls (k : Nat) (A0 : Option Addr) (c0 : Nat) (l0 : List (S90)) (A1 : Option Addr) (c1 : Nat) (l1 : List (S90)) (r : Bool) (w : World) (hr0 : Kd.C k90 w A0 l0.length l0) (hc0 : l0.length ≤ c0) (hr1 : Kd.C k90 w A1 l1.length l1) (hc1 : l1.length ≤ c1) (h : slices_Equal.f k l0 l1 = some r) :
 Calls Tryd.prog 68 #[.slice A0 l0.length c0, .slice A1 l1.length c1] w fun e w' => e = .returned (.bool r) ∧ Drawn0 w w' := by
 have hu90 := Tryd.underlying90
 have HR0 := am hr0
 have HC0 := am hc0
 clear hr0 hc0
 have HR1 := am hr1
 have HC1 := am hc1
 clear hr1 hc1
 have H : (if (l0.length : Int) = (l1.length : Int) then (slices_Equal.l0 k l0 l1 (l0.length : Int) 0) else (some false)) = some r := h
 clear h
 by_cases c3 : (l0.length : Int) = (l1.length : Int)
 ·rw [if_pos c3] at H
  have c3b0 : ((l0.length : Int) == (l1.length : Int)) = true := beq_iff_eq.mpr c3
  have c3b1 : ((l0.length : Int) != (l1.length : Int)) = false := bne_eq_false_iff_eq.mpr c3
  have c3b2 : (l0.length == l1.length) = true := by first | simpa using c3 | (simp at c3 ⊢; omega)
  clear c3
  have H' := am H
  clear H
  go_enter Tryd.func68, Tryd.ntmps68
  go_wp2
  repeat (go_quiet (fail); try go_wp2)
  go_loopg [13] k (fun kq v13 w' => ∃ (x13_1 : Int), v13 = .int .i64 x13_1 ∧ Aside0 (slices_Equal.l0 kq l0 l1 (l0.length : Int) x13_1 = some r) ∧ Aside0 (kq ≤ k) ∧ Drawn0 w w')
  case atStart => exact ⟨(0), (rs), H', ⟨Nat.le_refl _⟩, dw⟩
  case round =>
   clear H'
   try clear c1; try clear p2; try clear c3; try clear c3b0; try clear c3b1; try clear c3b2
   obtain ⟨x13_1, rfl, HA, HK1, ⟨m1, rfl⟩⟩ := hrel
   cases gk with
   | zero => exact absurd HA.out (by simp [slices_Equal.l0])
   | succ k1 =>
    have H := HA.out
    clear HA
    simp only [slices_Equal.l0] at H
    by_cases c4 : x13_1 < (l0.length : Int)
    ·rw [if_pos c4] at H
     have c4b0 : decide (x13_1 < (l0.length : Int)) = true := decide_eq_true c4
     clear c4
     by_cases c5 : 0 ≤ x13_1
     ·rw [if_pos c5] at H
      have c5b0 : decide (0 ≤ x13_1) = true := decide_eq_true c5
      clear c5
      by_cases c6 : x13_1 < (l0.length : Int)
      ·rw [if_pos c6] at H
       have c6b0 : decide (x13_1 < (l0.length : Int)) = true := decide_eq_true c6
       clear c6
       by_cases c7 : x13_1 < (l1.length : Int)
       ·rw [if_pos c7] at H
        have c7b0 : decide (x13_1 < (l1.length : Int)) = true := decide_eq_true c7
        clear c7
        by_cases c8 : (!((((rd_T90 l0 x13_1).f0).toList) == (((rd_T90 l1 x13_1).f0).toList)) || (!((((rd_T90 l0 x13_1).f1).toList) == (((rd_T90 l1 x13_1).f1).toList)))) = true
        ·rw [if_pos c8] at H
         have c8b0 : (!((((rd_T90 l0 x13_1).f0).toList) == (((rd_T90 l1 x13_1).f0).toList)) || (!((((rd_T90 l0 x13_1).f1).toList) == (((rd_T90 l1 x13_1).f1).toList)))) = true := c8
         clear c8
         obtain rfl := Option.some.inj H
         have p134 : 0 ≤ (x13_1 : Int) := oda
         have q134 : x13_1 < (l0.length : Int) := oda
         obtain ⟨ad134, e134, hx134_0, hx134_1⟩ := at_T90 HR0.out x13_1 p134 q134
         cases e134
         replace p134 := eq_true p134
         replace q134 := eq_true q134
         have p135 : 0 ≤ (x13_1 : Int) := oda
         have q135 : x13_1 < (l1.length : Int) := oda
         obtain ⟨ad135, e135, hx135_0, hx135_1⟩ := at_T90 HR1.out x13_1 p135 q135
         cases e135
         replace p135 := eq_true p135
         replace q135 := eq_true q135
         go_wp2
         repeat (go_quiet (fail); try go_wp2)
         go_ret
         exact ⟨rs, dw⟩
        rw [if_neg c8] at H
        have c8b0 : (!((((rd_T90 l0 x13_1).f0).toList) == (((rd_T90 l1 x13_1).f0).toList)) || (!((((rd_T90 l0 x13_1).f1).toList) == (((rd_T90 l1 x13_1).f1).toList)))) = false := by simpa using c8
        clear c8
        have H' := am H
        clear H
        have p134 : 0 ≤ (x13_1 : Int) := oda
        have q134 : x13_1 < (l0.length : Int) := oda
        obtain ⟨ad134, e134, hx134_0, hx134_1⟩ := at_T90 HR0.out x13_1 p134 q134
        cases e134
        replace p134 := eq_true p134
        replace q134 := eq_true q134
        have p135 : 0 ≤ (x13_1 : Int) := oda
        have q135 : x13_1 < (l1.length : Int) := oda
        obtain ⟨ad135, e135, hx135_0, hx135_1⟩ := at_T90 HR1.out x13_1 p135 q135
        cases e135
        replace p135 := eq_true p135
        replace q135 := eq_true q135
        go_wp2
        repeat (go_quiet (fail); try go_wp2)
        go_roundg k1
        case measure => have := HK1.out; omega
        case rel => exact ⟨(wrap64 (x13_1 + 1)), (rs), H', ⟨by have := HK1.out; omega⟩, dw⟩
       rw [if_neg c7] at H
       exact absurd H (by simp)
      rw [if_neg c6] at H
      exact absurd H (by simp)
     rw [if_neg c5] at H
     exact absurd H (by simp)
    rw [if_neg c4] at H
    have c4b0 : decide (x13_1 < (l0.length : Int)) = false := decide_eq_false c4
    clear c4
    obtain rfl := Option.some.inj H
    go_wp2
    repeat (go_quiet (fail); try go_wp2)
    go_ret
    exact ⟨rs, dw⟩
 rw [if_neg c3] at H
 have c3b0 : ((l0.length : Int) == (l1.length : Int)) = false := beq_eq_false_iff_ne.mpr c3
 have c3b1 : ((l0.length : Int) != (l1.length : Int)) = true := bne_iff_ne.mpr c3
 have c3b2 : (l0.length == l1.length) = false := by first | simpa using c3 | (simp at c3 ⊢; omega)
 obtain rfl := Option.some.inj H
 go_enter Tryd.func68, Tryd.ntmps68
 go_wp2
 repeat (go_quiet (fail); try go_wp2)
 go_ret
 exact ⟨rs, dw⟩
def attrs_Same.f (k : Nat) (l0 : List (S90)) (l1 : List (S90)) : Option (Bool) := (slices_Equal.f k l0 l1).bind fun t136 => (some t136)
theorem attrs_Same.mono : ∀ a0 a1 k, LeO (attrs_Same.f k a0 a1) (attrs_Same.f (k + 1) a0 a1) := by
 intro a0 a1 k
 unfold attrs_Same.f
 have m0 := @slices_Equal.mono; exact lo
set_option maxHeartbeats 8000000 in
set_option maxRecDepth 100000 in
theorem attrs_Same.calls (k : Nat) (A0 : Option Addr) (c0 : Nat) (l0 : List (S90)) (A1 : Option Addr) (c1 : Nat) (l1 : List (S90)) (r : Bool) (w : World) (hr0 : Kd.C k90 w A0 l0.length l0) (hc0 : l0.length ≤ c0) (hr1 : Kd.C k90 w A1 l1.length l1) (hc1 : l1.length ≤ c1) (h : attrs_Same.f k l0 l1 = some r) :
 Calls Tryd.prog 49 #[.slice A0 l0.length c0, .slice A1 l1.length c1] w fun e w' => e = .returned (.bool r) ∧ Drawn0 w w' := by
 have HR0 := am hr0
 have HC0 := am hc0
 clear hr0 hc0
 have HR1 := am hr1
 have HC1 := am hc1
 clear hr1 hc1
 have H : ((slices_Equal.f k l0 l1).bind fun t136 => (some t136)) = some r := h
 clear h
 replace H := Option.bind_eq_some_iff.mp H
 obtain ⟨t136, A30, H⟩ := H
 replace H : (some t136) = some r := H
 have A3 := am A30
 clear A30
 obtain rfl := Option.some.inj H
 go_enter Tryd.func49, Tryd.ntmps49
 go_wp2_with (first | ((with_reducible refine gate_callee (f := 68) rfl ?_); refine goesL_ (some 7) rfl rfl Tryd.func68 (by kernel_rfl) rfl #[.slice A0 l0.length c0, .slice A1 l1.length c1] rfl (by (try simp only [List.map_toArray, List.map_cons, List.map_nil]); first | done | rfl | (simp only [List.length_drop, List.length_take]; rfl)) ?_; (with_reducible refine (slices_Equal.calls k _ _ l0 _ _ l1 t136 _ ?side1 ?side2 ?side3 ?side4 A3.out).mono ?_); (case side1 => exact ks HR0.out); (case side2 => exact HC0.out); (case side3 => exact ks HR1.out); (case side4 => exact HC1.out); rintro e w' ⟨rfl, ⟨nd, rfl⟩⟩; refine ⟨_, rfl, ?_⟩))
 go_ret
 exact ⟨rs, dw⟩
def change_Same_1.f (k : Nat) (a0_0 : Int) (a0_1 : Int) (a0_2 : ByteArray) (l0_3 : List (S90)) (a1_0 : Int) (a1_1 : Int) (a1_2 : ByteArray) (l1_3 : List (S90)) : Option (Bool) := if a0_0 = a1_0 then (if a0_1 = a1_1 then (if a0_2.toList = a1_2.toList then ((attrs_Same.f k l0_3 l1_3).bind fun t139 => (some t139)) else (some false)) else (some false)) else (some false)
theorem change_Same_1.mono : ∀ a0 a1 a2 a3 a4 a5 a6 a7 k, LeO (change_Same_1.f k a0 a1 a2 a3 a4 a5 a6 a7) (change_Same_1.f (k + 1) a0 a1 a2 a3 a4 a5 a6 a7) := by
 intro a0 a1 a2 a3 a4 a5 a6 a7 k
 unfold change_Same_1.f
 have m0 := @attrs_Same.mono; exact lo
def slices_EqualFunc__change_Same_1.l0 : Nat → List (S43) → List (S43) → Int → Int → Option (Bool)
 | 0, _, _, _, _ => none
 | k + 1, x1, x15, x16, x17 => if x17 < x16 then (if 0 ≤ x17 then (if x17 < (x15.length : Int) then (if x17 < (x1.length : Int) then ((change_Same_1.f k ((rd_T43 x15 x17).f0) ((rd_T43 x15 x17).f1) ((rd_T43 x15 x17).f2) ((rd_T43 x15 x17).f3) ((rd_T43 x1 x17).f0) ((rd_T43 x1 x17).f1) ((rd_T43 x1 x17).f2) ((rd_T43 x1 x17).f3)).bind fun t144 => (if t144 = true then (slices_EqualFunc__change_Same_1.l0 k x1 x15 x16 (wrap64 (x17 + 1))) else (some false))) else (none)) else (none)) else (none)) else (some true)
def slices_EqualFunc__change_Same_1.f (k : Nat) (l0 : List (S43)) (l1 : List (S43))  : Option (Bool) := if (l0.length : Int) = (l1.length : Int) then (slices_EqualFunc__change_Same_1.l0 k l1 l0 (l0.length : Int) 0) else (some false)
theorem slices_EqualFunc__change_Same_1.mono_l : ∀ k, (∀ y0 y1 y2 y3, LeO (slices_EqualFunc__change_Same_1.l0 k y0 y1 y2 y3) (slices_EqualFunc__change_Same_1.l0 (k + 1) y0 y1 y2 y3))
 | 0 => fun _ _ _ _ r h => by simp [slices_EqualFunc__change_Same_1.l0] at h
 | k + 1 => by
  have ih0 := slices_EqualFunc__change_Same_1.mono_l k
  intro y0 y1 y2 y3
  unfold slices_EqualFunc__change_Same_1.l0
  have m0 := @change_Same_1.mono; exact lo
theorem slices_EqualFunc__change_Same_1.mono : ∀ a0 a1 k, LeO (slices_EqualFunc__change_Same_1.f k a0 a1) (slices_EqualFunc__change_Same_1.f (k + 1) a0 a1) := by
 intro a0 a1 k
 have ih0 := slices_EqualFunc__change_Same_1.mono_l k
 unfold slices_EqualFunc__change_Same_1.f
 have m0 := @change_Same_1.mono; exact lo
end Go.Proofs.YtinbpjodheceoaaDoor.Sp
