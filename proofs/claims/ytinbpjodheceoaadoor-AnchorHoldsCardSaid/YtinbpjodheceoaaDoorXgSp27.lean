/- Written by this session's programs (sprint.py, prune.py). -/
import Derived.Test.YtinbpjodheceoaaDoorXgSp0
import Derived.Test.YtinbpjodheceoaaDoorXgSp2
namespace Go.Proofs.YtinbpjodheceoaaDoor.Sp
open Go.RowKit Go.Proofs.YtinbpjodheceoaaDoorW.PrintWords Go.Proofs.YtinbpjodheceoaaDoorW.PrintLast Go.Proofs.YtinbpjodheceoaaDoorW.PrintMore
attribute [local go_sem] max2_int min2_int max_two min_two max_three min_three max_four min_four   -- for this text's walks alone
set_option linter.unusedVariables false
set_option linter.unusedSimpArgs false
attribute [local go_sem high] eqA90
attribute [local go_sem] own_leq own_gtr own_geq   -- for this text's walks alone
def blotterref02_Same.l0 : Nat → List (S90) → List (S90) → Int → Option (Bool)
 | 0, _, _, _ => none
 | k + 1, x0, x1, x5 => if x5 < (x0.length : Int) then (if 0 ≤ x5 then (if x5 < (x1.length : Int) then (if (!((((rd_T90 x0 x5).f0).toList) == (((rd_T90 x1 x5).f0).toList)) || (!((((rd_T90 x0 x5).f1).toList) == (((rd_T90 x1 x5).f1).toList)))) = true then (some false) else (blotterref02_Same.l0 k x0 x1 (wrap64 (x5 + 1)))) else (none)) else (none)) else (some true)
def blotterref02_Same.f (k : Nat) (l0 : List (S90)) (l1 : List (S90)) : Option (Bool) := if (l0.length : Int) = (l1.length : Int) then (blotterref02_Same.l0 k l0 l1 0) else (some false)
theorem blotterref02_Same.mono_l : ∀ k, (∀ y0 y1 y2, LeO (blotterref02_Same.l0 k y0 y1 y2) (blotterref02_Same.l0 (k + 1) y0 y1 y2))
 | 0 => fun _ _ _ r h => by simp [blotterref02_Same.l0] at h
 | k + 1 => by
  have ih0 := blotterref02_Same.mono_l k
  intro y0 y1 y2
  unfold blotterref02_Same.l0
  exact lo
theorem blotterref02_Same.mono : ∀ a0 a1 k, LeO (blotterref02_Same.f k a0 a1) (blotterref02_Same.f (k + 1) a0 a1) := by
 intro a0 a1 k
 have ih0 := blotterref02_Same.mono_l k
 unfold blotterref02_Same.f
 exact lo
set_option maxHeartbeats 8000000 in
set_option maxRecDepth 100000 in
theorem blotterref02_Same.calls (k : Nat) (A0 : Option Addr) (c0 : Nat) (l0 : List (S90)) (A1 : Option Addr) (c1 : Nat) (l1 : List (S90)) (r : Bool) (w : World) (hr0 : Kd.C k90 w A0 l0.length l0) (hc0 : l0.length ≤ c0) (hr1 : Kd.C k90 w A1 l1.length l1) (hc1 : l1.length ≤ c1) (h : blotterref02_Same.f k l0 l1 = some r) :
 Calls Tryd.prog 53 #[.slice A0 l0.length c0, .slice A1 l1.length c1] w fun e w' => e = .returned (.bool r) ∧ Drawn0 w w' := by
 have hu90 := Tryd.underlying90
 have HR0 := am hr0
 have HC0 := am hc0
 clear hr0 hc0
 have HR1 := am hr1
 have HC1 := am hc1
 clear hr1 hc1
 have H : (if (l0.length : Int) = (l1.length : Int) then (blotterref02_Same.l0 k l0 l1 0) else (some false)) = some r := h
 clear h
 by_cases c3 : (l0.length : Int) = (l1.length : Int)
 ·rw [if_pos c3] at H
  have c3b0 : ((l0.length : Int) == (l1.length : Int)) = true := beq_iff_eq.mpr c3
  have c3b1 : ((l0.length : Int) != (l1.length : Int)) = false := bne_eq_false_iff_eq.mpr c3
  have c3b2 : (l0.length == l1.length) = true := by first | simpa using c3 | (simp at c3 ⊢; omega)
  clear c3
  have H' := am H
  clear H
  go_enter Tryd.func53, Tryd.ntmps53
  go_wp2
  repeat (go_quiet (fail); try go_wp2)
  go_loopg [5] k (fun kq v5 w' => ∃ (x5_1 : Int), v5 = .int .i64 x5_1 ∧ Aside0 (blotterref02_Same.l0 kq l0 l1 x5_1 = some r) ∧ Aside0 (kq ≤ k) ∧ Drawn0 w w')
  case atStart => exact ⟨(0), (rs), H', ⟨Nat.le_refl _⟩, dw⟩
  case round =>
   clear H'
   try clear c1; try clear p2; try clear c3; try clear c3b0; try clear c3b1; try clear c3b2
   obtain ⟨x5_1, rfl, HA, HK1, ⟨m1, rfl⟩⟩ := hrel
   cases gk with
   | zero => exact absurd HA.out (by simp [blotterref02_Same.l0])
   | succ k1 =>
    have H := HA.out
    clear HA
    simp only [blotterref02_Same.l0] at H
    by_cases c4 : x5_1 < (l0.length : Int)
    ·rw [if_pos c4] at H
     have c4b0 : decide (x5_1 < (l0.length : Int)) = true := decide_eq_true c4
     clear c4
     by_cases c5 : 0 ≤ x5_1
     ·rw [if_pos c5] at H
      have c5b0 : decide (0 ≤ x5_1) = true := decide_eq_true c5
      clear c5
      by_cases c6 : x5_1 < (l1.length : Int)
      ·rw [if_pos c6] at H
       have c6b0 : decide (x5_1 < (l1.length : Int)) = true := decide_eq_true c6
       clear c6
       by_cases c7 : (!((((rd_T90 l0 x5_1).f0).toList) == (((rd_T90 l1 x5_1).f0).toList)) || (!((((rd_T90 l0 x5_1).f1).toList) == (((rd_T90 l1 x5_1).f1).toList)))) = true
       ·rw [if_pos c7] at H
        have c7b0 : (!((((rd_T90 l0 x5_1).f0).toList) == (((rd_T90 l1 x5_1).f0).toList)) || (!((((rd_T90 l0 x5_1).f1).toList) == (((rd_T90 l1 x5_1).f1).toList)))) = true := c7
        clear c7
        obtain rfl := Option.some.inj H
        have p477 : 0 ≤ (x5_1 : Int) := oda
        have q477 : x5_1 < (l0.length : Int) := oda
        obtain ⟨ad477, e477, hx477_0, hx477_1⟩ := at_T90 HR0.out x5_1 p477 q477
        cases e477
        replace p477 := eq_true p477
        replace q477 := eq_true q477
        have p478 : 0 ≤ (x5_1 : Int) := oda
        have q478 : x5_1 < (l1.length : Int) := oda
        obtain ⟨ad478, e478, hx478_0, hx478_1⟩ := at_T90 HR1.out x5_1 p478 q478
        cases e478
        replace p478 := eq_true p478
        replace q478 := eq_true q478
        go_wp2
        repeat (go_quiet (fail); try go_wp2)
        go_ret
        exact ⟨rs, dw⟩
       rw [if_neg c7] at H
       have c7b0 : (!((((rd_T90 l0 x5_1).f0).toList) == (((rd_T90 l1 x5_1).f0).toList)) || (!((((rd_T90 l0 x5_1).f1).toList) == (((rd_T90 l1 x5_1).f1).toList)))) = false := by simpa using c7
       clear c7
       have H' := am H
       clear H
       have p477 : 0 ≤ (x5_1 : Int) := oda
       have q477 : x5_1 < (l0.length : Int) := oda
       obtain ⟨ad477, e477, hx477_0, hx477_1⟩ := at_T90 HR0.out x5_1 p477 q477
       cases e477
       replace p477 := eq_true p477
       replace q477 := eq_true q477
       have p478 : 0 ≤ (x5_1 : Int) := oda
       have q478 : x5_1 < (l1.length : Int) := oda
       obtain ⟨ad478, e478, hx478_0, hx478_1⟩ := at_T90 HR1.out x5_1 p478 q478
       cases e478
       replace p478 := eq_true p478
       replace q478 := eq_true q478
       go_wp2
       repeat (go_quiet (fail); try go_wp2)
       go_roundg k1
       case measure => have := HK1.out; omega
       case rel => exact ⟨(wrap64 (x5_1 + 1)), (rs), H', ⟨by have := HK1.out; omega⟩, dw⟩
      rw [if_neg c6] at H
      exact absurd H (by simp)
     rw [if_neg c5] at H
     exact absurd H (by simp)
    rw [if_neg c4] at H
    have c4b0 : decide (x5_1 < (l0.length : Int)) = false := decide_eq_false c4
    clear c4
    obtain rfl := Option.some.inj H
    go_wp2
    repeat (go_quiet (fail); try go_wp2)
    go_ret
    exact ⟨rs, dw⟩
 rw [if_neg c3] at H
 have c3b0 : ((l0.length : Int) == (l1.length : Int)) = false := beq_eq_false_iff_ne.mpr c3
 have c3b1 : ((l0.length : Int) != (l1.length : Int)) = true := bne_iff_ne.mpr c3
 have c3b2 : (l0.length == l1.length) = false := by first | simpa using c3 | (simp at c3 ⊢; omega)
 obtain rfl := Option.some.inj H
 go_enter Tryd.func53, Tryd.ntmps53
 go_wp2
 repeat (go_quiet (fail); try go_wp2)
 go_ret
 exact ⟨rs, dw⟩
mutual
def blotterref03_Same.j0 : Nat → Bool → Int → List (S43) → Int → List (S43) → Option (Bool)
 | 0, _, _, _, _, _ => none
 | k + 1, x22, x480000, x480001, x481000, x481001 => if x22 = true then (some false) else (blotterref03_Same.l0 k 0 x480000 x480001 x481000 x481001)
def blotterref03_Same.l0 : Nat → Int → Int → List (S43) → Int → List (S43) → Option (Bool)
 | 0, _, _, _, _, _ => none
 | k + 1, x5, x480000, x480001, x481000, x481001 => if x5 < (x480001.length : Int) then (if 0 ≤ x5 then (if x5 < (x481001.length : Int) then ((blotterref02_Same.f k ((rd_T43 x480001 x5).f3) ((rd_T43 x481001 x5).f3)).bind fun t485 => (if ((rd_T43 x480001 x5).f0) = ((rd_T43 x481001 x5).f0) then (if ((rd_T43 x480001 x5).f1) = ((rd_T43 x481001 x5).f1) then (if ((rd_T43 x480001 x5).f2).toList = ((rd_T43 x481001 x5).f2).toList then (blotterref03_Same.j2 k x5 (!t485) x480000 x480001 x481000 x481001) else (blotterref03_Same.j2 k x5 true x480000 x480001 x481000 x481001)) else (blotterref03_Same.j2 k x5 true x480000 x480001 x481000 x481001)) else (blotterref03_Same.j2 k x5 true x480000 x480001 x481000 x481001))) else (none)) else (none)) else (some true)
def blotterref03_Same.j2 : Nat → Int → Bool → Int → List (S43) → Int → List (S43) → Option (Bool)
 | 0, _, _, _, _, _, _ => none
 | k + 1, x5, x67, x480000, x480001, x481000, x481001 => if x67 = true then (some false) else (blotterref03_Same.l0 k (wrap64 (x5 + 1)) x480000 x480001 x481000 x481001)
end
def blotterref03_Same.f (k : Nat) (a0_0 : Int) (l0_1 : List (S43)) (a1_0 : Int) (l1_1 : List (S43)) : Option (Bool) := if a0_0 = a1_0 then (blotterref03_Same.j0 k ((l0_1.length : Int) != (l1_1.length : Int)) a0_0 l0_1 a1_0 l1_1) else (blotterref03_Same.j0 k true a0_0 l0_1 a1_0 l1_1)
theorem blotterref03_Same.mono_l : ∀ k, (∀ y0 y1 y2 y3 y4, LeO (blotterref03_Same.j0 k y0 y1 y2 y3 y4) (blotterref03_Same.j0 (k + 1) y0 y1 y2 y3 y4)) ∧ (∀ y0 y1 y2 y3 y4, LeO (blotterref03_Same.l0 k y0 y1 y2 y3 y4) (blotterref03_Same.l0 (k + 1) y0 y1 y2 y3 y4)) ∧ (∀ y0 y1 y2 y3 y4 y5, LeO (blotterref03_Same.j2 k y0 y1 y2 y3 y4 y5) (blotterref03_Same.j2 (k + 1) y0 y1 y2 y3 y4 y5))
 | 0 => ⟨fun _ _ _ _ _ r h => by simp [blotterref03_Same.j0] at h, fun _ _ _ _ _ r h => by simp [blotterref03_Same.l0] at h, fun _ _ _ _ _ _ r h => by simp [blotterref03_Same.j2] at h⟩
 | k + 1 => by
  obtain ⟨ih0, ih1, ih2⟩ := blotterref03_Same.mono_l k
  refine ⟨?_, ?_, ?_⟩
  ·intro y0 y1 y2 y3 y4
   unfold blotterref03_Same.j0
   have m0 := @blotterref02_Same.mono; exact lo
  ·intro y0 y1 y2 y3 y4
   unfold blotterref03_Same.l0
   have m0 := @blotterref02_Same.mono; exact lo
  intro y0 y1 y2 y3 y4 y5
  unfold blotterref03_Same.j2
  have m0 := @blotterref02_Same.mono; exact lo
theorem blotterref03_Same.mono : ∀ a0 a1 a2 a3 k, LeO (blotterref03_Same.f k a0 a1 a2 a3) (blotterref03_Same.f (k + 1) a0 a1 a2 a3) := by
 intro a0 a1 a2 a3 k
 obtain ⟨ih0, ih1, ih2⟩ := blotterref03_Same.mono_l k
 unfold blotterref03_Same.f
 have m0 := @blotterref02_Same.mono; exact lo
end Go.Proofs.YtinbpjodheceoaaDoor.Sp
