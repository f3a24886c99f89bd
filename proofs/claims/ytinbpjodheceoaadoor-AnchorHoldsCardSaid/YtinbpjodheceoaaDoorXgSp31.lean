/- Written by this session's programs (sprint.py, prune.py). -/
import Derived.Test.YtinbpjodheceoaaDoorXgSp0
import Derived.Test.YtinbpjodheceoaaDoorXgSp30
namespace Go.Proofs.YtinbpjodheceoaaDoor.Sp
open Go.RowKit Go.Proofs.YtinbpjodheceoaaDoorW.PrintWords Go.Proofs.YtinbpjodheceoaaDoorW.PrintLast Go.Proofs.YtinbpjodheceoaaDoorW.PrintMore
attribute [local go_sem] max2_int min2_int max_two min_two max_three min_three max_four min_four   -- for this text's walks alone
set_option linter.unusedVariables false
set_option linter.unusedSimpArgs false
attribute [local go_sem] own_leq own_gtr own_geq   -- for this text's walks alone
mutual
def blotterref02_Change.l0 : Nat → List (S90) → Int → Option (Int)
 | 0, _, _ => none
 | k + 1, x0, x3 => if x3 < (x0.length : Int) then (if 0 ≤ x3 then ((blotterref02_key.f k ((rd_T90 x0 x3).f0)).bind fun t511 => ((blotterref02_value.f k ((rd_T90 x0 x3).f1)).bind fun t513 => (if t511 = true then (if t513 = true then (if x3 > 0 then (if 0 ≤ (wrap64 (x3 - 1)) then (if (wrap64 (x3 - 1)) < (x0.length : Int) then (blotterref02_Change.j1 k x0 x3 (!(Op.bytesLess (((rd_T90 x0 (wrap64 (x3 - 1))).f0).toList) (((rd_T90 x0 x3).f0).toList)))) else (none)) else (none)) else (blotterref02_Change.j1 k x0 x3 false)) else (blotterref02_Change.j1 k x0 x3 true)) else (blotterref02_Change.j1 k x0 x3 true)))) else (none)) else (some 0)
def blotterref02_Change.j1 : Nat → List (S90) → Int → Bool → Option (Int)
 | 0, _, _, _ => none
 | k + 1, x0, x3, x50 => if x50 = true then (some 20) else (blotterref02_Change.l0 k x0 (wrap64 (x3 + 1)))
end
def blotterref02_Change.f (k : Nat) (l0 : List (S90)) : Option (Int) := if (l0.length : Int) > 8 then (some 20) else (blotterref02_Change.l0 k l0 0)
theorem blotterref02_Change.mono_l : ∀ k, (∀ y0 y1, LeO (blotterref02_Change.l0 k y0 y1) (blotterref02_Change.l0 (k + 1) y0 y1)) ∧ (∀ y0 y1 y2, LeO (blotterref02_Change.j1 k y0 y1 y2) (blotterref02_Change.j1 (k + 1) y0 y1 y2))
 | 0 => ⟨fun _ _ r h => by simp [blotterref02_Change.l0] at h, fun _ _ _ r h => by simp [blotterref02_Change.j1] at h⟩
 | k + 1 => by
  obtain ⟨ih0, ih1⟩ := blotterref02_Change.mono_l k
  refine ⟨?_, ?_⟩
  ·intro y0 y1
   unfold blotterref02_Change.l0
   have m0 := @blotterref02_key.mono; have m1 := @blotterref02_value.mono; exact lo
  intro y0 y1 y2
  unfold blotterref02_Change.j1
  have m0 := @blotterref02_key.mono; have m1 := @blotterref02_value.mono; exact lo
theorem blotterref02_Change.mono : ∀ a0 k, LeO (blotterref02_Change.f k a0) (blotterref02_Change.f (k + 1) a0) := by
 intro a0 k
 obtain ⟨ih0, ih1⟩ := blotterref02_Change.mono_l k
 unfold blotterref02_Change.f
 have m0 := @blotterref02_key.mono; have m1 := @blotterref02_value.mono; exact lo
set_option maxHeartbeats 8000000 in
set_option maxRecDepth 100000 in
theorem blotterref02_Change.calls (k : Nat) (A0 : Option Addr) (c0 : Nat) (l0 : List (S90)) (r : Int) (w : World) (hr0 : Kd.C k90 w A0 l0.length l0) (hc0 : l0.length ≤ c0) (h : blotterref02_Change.f k l0 = some r) :
 Calls Tryd.prog 72 #[.slice A0 l0.length c0] w fun e w' => e = .returned (.int .i64 r) ∧ Drawn0 w w' := by
 have HR0 := am hr0
 have HC0 := am hc0
 clear hr0 hc0
 have H : (if (l0.length : Int) > 8 then (some 20) else (blotterref02_Change.l0 k l0 0)) = some r := h
 clear h
 by_cases c2 : (l0.length : Int) > 8
 ·rw [if_pos c2] at H
  have c2b0 : decide (8 < (l0.length : Int)) = true := decide_eq_true c2
  have c2b1 : decide (8 < l0.length) = true := decide_eq_true (by omega)
  clear c2
  obtain rfl := Option.some.inj H
  go_enter Tryd.func72, Tryd.ntmps72
  go_wp2
  repeat (go_quiet (fail); try go_wp2)
  go_ret
  exact ⟨rs, dw⟩
 rw [if_neg c2] at H
 have c2b0 : decide (8 < (l0.length : Int)) = false := decide_eq_false c2
 have c2b1 : decide (8 < l0.length) = false := decide_eq_false (by omega)
 clear c2
 have H' := am H
 clear H
 go_enter Tryd.func72, Tryd.ntmps72
 go_wp2
 repeat (go_quiet (fail); try go_wp2)
 go_loopg [3] k (fun kq v3 w' => ∃ (x3_1 : Int), v3 = .int .i64 x3_1 ∧ Aside0 (blotterref02_Change.l0 kq l0 x3_1 = some r) ∧ Aside0 (kq ≤ k) ∧ Drawn0 w w')
 case atStart => exact ⟨(0), (rs), H', ⟨Nat.le_refl _⟩, dw⟩
 case round =>
  clear H'
  try clear c2; try clear c2b0; try clear c2b1; try clear p2
  obtain ⟨x3_1, rfl, HA, HK1, ⟨m1, rfl⟩⟩ := hrel
  cases gk with
  | zero => exact absurd HA.out (by simp [blotterref02_Change.l0])
  | succ k1 =>
   have H := HA.out
   clear HA
   simp only [blotterref02_Change.l0] at H
   by_cases c3 : x3_1 < (l0.length : Int)
   ·rw [if_pos c3] at H
    have c3b0 : decide (x3_1 < (l0.length : Int)) = true := decide_eq_true c3
    clear c3
    by_cases c4 : 0 ≤ x3_1
    ·rw [if_pos c4] at H
     have c4b0 : decide (0 ≤ x3_1) = true := decide_eq_true c4
     clear c4
     replace H := Option.bind_eq_some_iff.mp H
     obtain ⟨t511, A50, H⟩ := H
     replace H : ((blotterref02_value.f k1 ((rd_T90 l0 x3_1).f1)).bind fun t513 => (if t511 = true then (if t513 = true then (if x3_1 > 0 then (if 0 ≤ (wrap64 (x3_1 - 1)) then (if (wrap64 (x3_1 - 1)) < (l0.length : Int) then (blotterref02_Change.j1 k1 l0 x3_1 (!(Op.bytesLess (((rd_T90 l0 (wrap64 (x3_1 - 1))).f0).toList) (((rd_T90 l0 x3_1).f0).toList)))) else (none)) else (none)) else (blotterref02_Change.j1 k1 l0 x3_1 false)) else (blotterref02_Change.j1 k1 l0 x3_1 true)) else (blotterref02_Change.j1 k1 l0 x3_1 true))) = some r := H
     have A5 := am A50
     clear A50
     replace H := Option.bind_eq_some_iff.mp H
     obtain ⟨t513, A60, H⟩ := H
     replace H : (if t511 = true then (if t513 = true then (if x3_1 > 0 then (if 0 ≤ (wrap64 (x3_1 - 1)) then (if (wrap64 (x3_1 - 1)) < (l0.length : Int) then (blotterref02_Change.j1 k1 l0 x3_1 (!(Op.bytesLess (((rd_T90 l0 (wrap64 (x3_1 - 1))).f0).toList) (((rd_T90 l0 x3_1).f0).toList)))) else (none)) else (none)) else (blotterref02_Change.j1 k1 l0 x3_1 false)) else (blotterref02_Change.j1 k1 l0 x3_1 true)) else (blotterref02_Change.j1 k1 l0 x3_1 true)) = some r := H
     have A6 := am A60
     clear A60
     have HC7 := am H
     clear H
     have p510 : 0 ≤ (x3_1 : Int) := oda
     have q510 : x3_1 < (l0.length : Int) := oda
     obtain ⟨ad510, e510, hx510_0, hx510_1⟩ := at_T90 HR0.out x3_1 p510 q510
     cases e510
     replace p510 := eq_true p510
     replace q510 := eq_true q510
     go_upto_region 8 with (first | (go_at_call 82; (with_reducible refine (blotterref02_key.calls k1 ((rd_T90 l0 x3_1).f0) t511 _ A5.out).mono ?_); rintro e w' ⟨rfl, ⟨nd, rfl⟩⟩; (try first | exact ⟨rfl, _, World.drewN_drewN _ _ _⟩ | exact ⟨rfl, _, Eq.trans (World.drewN_drewN _ _ _) (congrArg (World.drewN _) (Nat.add_assoc _ _ _))⟩); have p512 : 0 ≤ (x3_1 : Int) := oda; have q512 : x3_1 < (l0.length : Int) := oda; obtain ⟨ad512, e512, hx512_0, hx512_1⟩ := at_T90 HR0.out x3_1 p512 q512; obtain rfl : ad510 = ad512 := (by injection e512); replace p512 := eq_true p512; replace q512 := eq_true q512) | (go_at_call 83; (with_reducible refine (blotterref02_value.calls k1 ((rd_T90 l0 x3_1).f1) t513 _ A6.out).mono ?_); rintro e w' ⟨rfl, ⟨nd, rfl⟩⟩; (try first | exact ⟨rfl, _, World.drewN_drewN _ _ _⟩ | exact ⟨rfl, _, Eq.trans (World.drewN_drewN _ _ _) (congrArg (World.drewN _) (Nat.add_assoc _ _ _))⟩)))
     repeat (go_quiet (first | (go_at_call 82; (with_reducible refine (blotterref02_key.calls k1 ((rd_T90 l0 x3_1).f0) t511 _ A5.out).mono ?_); rintro e w' ⟨rfl, ⟨nd, rfl⟩⟩; (try first | exact ⟨rfl, _, World.drewN_drewN _ _ _⟩ | exact ⟨rfl, _, Eq.trans (World.drewN_drewN _ _ _) (congrArg (World.drewN _) (Nat.add_assoc _ _ _))⟩); have p512 : 0 ≤ (x3_1 : Int) := oda; have q512 : x3_1 < (l0.length : Int) := oda; obtain ⟨ad512, e512, hx512_0, hx512_1⟩ := at_T90 HR0.out x3_1 p512 q512; obtain rfl : ad510 = ad512 := (by injection e512); replace p512 := eq_true p512; replace q512 := eq_true q512) | (go_at_call 83; (with_reducible refine (blotterref02_value.calls k1 ((rd_T90 l0 x3_1).f1) t513 _ A6.out).mono ?_); rintro e w' ⟨rfl, ⟨nd, rfl⟩⟩; (try first | exact ⟨rfl, _, World.drewN_drewN _ _ _⟩ | exact ⟨rfl, _, Eq.trans (World.drewN_drewN _ _ _) (congrArg (World.drewN _) (Nat.add_assoc _ _ _))⟩))); go_upto_region 8 with (first | (go_at_call 82; (with_reducible refine (blotterref02_key.calls k1 ((rd_T90 l0 x3_1).f0) t511 _ A5.out).mono ?_); rintro e w' ⟨rfl, ⟨nd, rfl⟩⟩; (try first | exact ⟨rfl, _, World.drewN_drewN _ _ _⟩ | exact ⟨rfl, _, Eq.trans (World.drewN_drewN _ _ _) (congrArg (World.drewN _) (Nat.add_assoc _ _ _))⟩); have p512 : 0 ≤ (x3_1 : Int) := oda; have q512 : x3_1 < (l0.length : Int) := oda; obtain ⟨ad512, e512, hx512_0, hx512_1⟩ := at_T90 HR0.out x3_1 p512 q512; obtain rfl : ad510 = ad512 := (by injection e512); replace p512 := eq_true p512; replace q512 := eq_true q512) | (go_at_call 83; (with_reducible refine (blotterref02_value.calls k1 ((rd_T90 l0 x3_1).f1) t513 _ A6.out).mono ?_); rintro e w' ⟨rfl, ⟨nd, rfl⟩⟩; (try first | exact ⟨rfl, _, World.drewN_drewN _ _ _⟩ | exact ⟨rfl, _, Eq.trans (World.drewN_drewN _ _ _) (congrArg (World.drewN _) (Nat.add_assoc _ _ _))⟩))))
     (try simp only [Act.put, List.setIfInBounds_toArray, List.set_cons_zero, List.set_cons_succ])
     go_cut [50] (fun v50 wc => ∃ (kq : Nat) (x50_6 : Bool), v50 = .bool x50_6 ∧ Aside0 (blotterref02_Change.j1 kq l0 x3_1 x50_6 = some r) ∧ Aside0 (kq ≤ k1) ∧ Drawn0 w wc)
     case first =>
      have H := HC7.out
      clear HC7
      by_cases c8 : t511 = true
      ·subst c8
       have H1 : (if t513 = true then (if x3_1 > 0 then (if 0 ≤ (wrap64 (x3_1 - 1)) then (if (wrap64 (x3_1 - 1)) < (l0.length : Int) then (blotterref02_Change.j1 k1 l0 x3_1 (!(Op.bytesLess (((rd_T90 l0 (wrap64 (x3_1 - 1))).f0).toList) (((rd_T90 l0 x3_1).f0).toList)))) else (none)) else (none)) else (blotterref02_Change.j1 k1 l0 x3_1 false)) else (blotterref02_Change.j1 k1 l0 x3_1 true)) = some r := by rw [if_pos rfl] at H; exact H
       clear H
       have H := H1
       clear H1
       by_cases c9 : t513 = true
       ·subst c9
        have H1 : (if x3_1 > 0 then (if 0 ≤ (wrap64 (x3_1 - 1)) then (if (wrap64 (x3_1 - 1)) < (l0.length : Int) then (blotterref02_Change.j1 k1 l0 x3_1 (!(Op.bytesLess (((rd_T90 l0 (wrap64 (x3_1 - 1))).f0).toList) (((rd_T90 l0 x3_1).f0).toList)))) else (none)) else (none)) else (blotterref02_Change.j1 k1 l0 x3_1 false)) = some r := by rw [if_pos rfl] at H; exact H
        clear H
        have H := H1
        clear H1
        by_cases c10 : x3_1 > 0
        ·rw [if_pos c10] at H
         have c10b0 : decide (0 < x3_1) = true := decide_eq_true c10
         clear c10
         (first | rw [c10b0] | (simp only [i64_w, i32_w]; rw [c10b0]) | skip)
         obtain ⟨ji11, hji11⟩ : ∃ j_ : Int, (wrap64 (x3_1 - 1)) = j_ := ⟨_, rfl⟩
         replace H : (if 0 ≤ (ji11) then (if (ji11) < (l0.length : Int) then (blotterref02_Change.j1 k1 l0 x3_1 (!(Op.bytesLess (((rd_T90 l0 (ji11)).f0).toList) (((rd_T90 l0 x3_1).f0).toList)))) else (none)) else (none)) = some r := by first | (rw [hji11] at H; exact H) | (simp only [hji11] at H ⊢; exact H)
         have hji11w : (IntKind.i64.wrap (x3_1 - 1)) = ji11 := (i64_w _).trans hji11
         by_cases c12 : 0 ≤ (ji11)
         ·rw [if_pos c12] at H
          have c12b0 : decide (0 ≤ (ji11)) = true := decide_eq_true c12
          clear c12
          by_cases c13 : (ji11) < (l0.length : Int)
          ·rw [if_pos c13] at H
           have c13b0 : decide ((ji11) < (l0.length : Int)) = true := decide_eq_true c13
           clear c13
           have H' := am H
           clear H
           have p514 : 0 ≤ (x3_1 : Int) := oda
           have q514 : x3_1 < (l0.length : Int) := oda
           obtain ⟨ad514, e514, hx514_0, hx514_1⟩ := at_T90 HR0.out x3_1 p514 q514
           obtain rfl : ad510 = ad514 := (by injection e514)
           replace p514 := eq_true p514
           replace q514 := eq_true q514
           have p515 : 0 ≤ ((ji11) : Int) := oda
           have q515 : (ji11) < (l0.length : Int) := oda
           obtain ⟨ad515, e515, hx515_0, hx515_1⟩ := at_T90 HR0.out (ji11) p515 q515
           obtain rfl : ad510 = ad515 := (by injection e515)
           replace p515 := eq_true p515
           replace q515 := eq_true q515
           go_wp2
           repeat (go_quiet (fail); try go_wp2)
           go_meet
           case rel => exact ⟨_, (!(Op.bytesLess (((rd_T90 l0 (ji11)).f0).toList) (((rd_T90 l0 x3_1).f0).toList))), (by first | rfl | (simp; done) | (simp only [← hji11] <;> (first | rfl | simp)) | (simp [*]; done)), H', ⟨by have := HK1.out; first | omega | exact Nat.le_refl _⟩, dw⟩
          rw [if_neg c13] at H
          exact absurd H (by simp)
         rw [if_neg c12] at H
         exact absurd H (by simp)
        rw [if_neg c10] at H
        have c10b0 : decide (0 < x3_1) = false := decide_eq_false c10
        clear c10
        (first | rw [c10b0] | (simp only [i64_w, i32_w]; rw [c10b0]) | skip)
        have H' := am H
        clear H
        go_wp2
        repeat (go_quiet (fail); try go_wp2)
        go_meet
        case rel => exact ⟨_, (false), (rs), H', ⟨by have := HK1.out; first | omega | exact Nat.le_refl _⟩, dw⟩
       replace c9 := Bool.eq_false_iff.mpr c9
       subst c9
       have H1 : (blotterref02_Change.j1 k1 l0 x3_1 true) = some r := by rw [if_neg (show ¬ (false = true) by decide)] at H; exact H
       clear H
       have H := H1
       clear H1
       have H' := am H
       clear H
       go_wp2
       repeat (go_quiet (fail); try go_wp2)
       go_meet
       case rel => exact ⟨_, (true), (rs), H', ⟨by have := HK1.out; first | omega | exact Nat.le_refl _⟩, dw⟩
      replace c8 := Bool.eq_false_iff.mpr c8
      subst c8
      have H1 : (blotterref02_Change.j1 k1 l0 x3_1 true) = some r := by rw [if_neg (show ¬ (false = true) by decide)] at H; exact H
      clear H
      have H := H1
      clear H1
      have H' := am H
      clear H
      go_wp2
      repeat (go_quiet (fail); try go_wp2)
      go_meet
      case rel => exact ⟨_, (true), (rs), H', ⟨by have := HK1.out; first | omega | exact Nat.le_refl _⟩, dw⟩
     case rest =>
      clear HC7
      try clear c1; try clear c2; try clear c2b0; try clear c2b1; try clear p2; try clear c3; try clear c3b0; try clear c4; try clear c4b0; try clear p5; try clear q5; try clear hx5; try clear p6; try clear c7; try clear c8; try clear c9; try clear c10; try clear c10b0; try clear c12; try clear c12b0; try clear c13; try clear c13b0; try clear hx510_0; try clear hx510_1; try clear hx512_0; try clear hx512_1; try clear hx514_0; try clear hx514_1; try clear hx515_0; try clear hx515_1; try clear p2; try clear p510; try clear p512; try clear p514; try clear p515; try clear q510; try clear q512; try clear q514; try clear q515
      obtain ⟨kq, x50_6, rfl, HA, HJ6, ⟨mc6, rfl⟩⟩ := hcut
      cases kq with
      | zero => exact absurd HA.out (by simp [blotterref02_Change.j1])
      | succ kj6 =>
       have H := HA.out
       clear HA
       simp only [blotterref02_Change.j1] at H
       by_cases c14 : x50_6 = true
       ·subst c14
        have H1 : (some 20) = some r := by rw [if_pos rfl] at H; exact H
        clear H
        have H := H1
        clear H1
        obtain rfl := Option.some.inj H
        go_wp2
        repeat (go_quiet (fail); try go_wp2)
        go_ret
        exact ⟨rs, dw⟩
       replace c14 := Bool.eq_false_iff.mpr c14
       subst c14
       have H1 : (blotterref02_Change.l0 kj6 l0 (wrap64 (x3_1 + 1))) = some r := by rw [if_neg (show ¬ (false = true) by decide)] at H; exact H
       clear H
       have H := H1
       clear H1
       have H' := am H
       clear H
       go_wp2
       repeat (go_quiet (fail); try go_wp2)
       go_roundg kj6
       case measure => have := HK1.out; have := HJ6.out; omega
       case rel => exact ⟨(wrap64 (x3_1 + 1)), (rs), H', ⟨by have := HK1.out; have := HJ6.out; omega⟩, dw⟩
    rw [if_neg c4] at H
    exact absurd H (by simp)
   rw [if_neg c3] at H
   have c3b0 : decide (x3_1 < (l0.length : Int)) = false := decide_eq_false c3
   clear c3
   obtain rfl := Option.some.inj H
   go_wp2
   repeat (go_quiet (fail); try go_wp2)
   go_ret
   exact ⟨rs, dw⟩
mutual
def blotterref02_Right.l0 : Nat → List (S90) → Int → Int → Option (Int)
 | 0, _, _, _ => none
 | k + 1, x0, x3, x4 => if x4 < (x0.length : Int) then (blotterref02_Right.j1 k x0 x3 x4 (x3 == 0)) else (blotterref02_Right.j1 k x0 x3 x4 false)
def blotterref02_Right.j1 : Nat → List (S90) → Int → Int → Bool → Option (Int)
 | 0, _, _, _, _ => none
 | k + 1, x0, x3, x4, x14 => if x14 = true then (if 0 ≤ x4 then (if x4 < (x0.length : Int) then (if ((rd_T90 x0 x4).f1).toList = ([] : List UInt8) then (some 20) else (blotterref02_Right.l0 k x0 x3 (wrap64 (x4 + 1)))) else (none)) else (none)) else (some x3)
end
def blotterref02_Right.f (k : Nat) (l0 : List (S90)) : Option (Int) := (blotterref02_Change.f k l0).bind fun t516 => (blotterref02_Right.l0 k l0 t516 0)
theorem blotterref02_Right.mono_l : ∀ k, (∀ y0 y1 y2, LeO (blotterref02_Right.l0 k y0 y1 y2) (blotterref02_Right.l0 (k + 1) y0 y1 y2)) ∧ (∀ y0 y1 y2 y3, LeO (blotterref02_Right.j1 k y0 y1 y2 y3) (blotterref02_Right.j1 (k + 1) y0 y1 y2 y3))
 | 0 => ⟨fun _ _ _ r h => by simp [blotterref02_Right.l0] at h, fun _ _ _ _ r h => by simp [blotterref02_Right.j1] at h⟩
 | k + 1 => by
  obtain ⟨ih0, ih1⟩ := blotterref02_Right.mono_l k
  refine ⟨?_, ?_⟩
  ·intro y0 y1 y2
   unfold blotterref02_Right.l0
   have m0 := @blotterref02_Change.mono; exact lo
  intro y0 y1 y2 y3
  unfold blotterref02_Right.j1
  have m0 := @blotterref02_Change.mono; exact lo
theorem blotterref02_Right.mono : ∀ a0 k, LeO (blotterref02_Right.f k a0) (blotterref02_Right.f (k + 1) a0) := by
 intro a0 k
 obtain ⟨ih0, ih1⟩ := blotterref02_Right.mono_l k
 unfold blotterref02_Right.f
 have m0 := @blotterref02_Change.mono; exact lo
set_option maxHeartbeats 8000000 in
set_option maxRecDepth 100000 in
theorem blotterref02_Right.calls (k : Nat) (A0 : Option Addr) (c0 : Nat) (l0 : List (S90)) (r : Int) (w : World) (hr0 : Kd.C k90 w A0 l0.length l0) (hc0 : l0.length ≤ c0) (h : blotterref02_Right.f k l0 = some r) :
 Calls Tryd.prog 71 #[.slice A0 l0.length c0] w fun e w' => e = .returned (.int .i64 r) ∧ Drawn0 w w' := by
 have HR0 := am hr0
 have HC0 := am hc0
 clear hr0 hc0
 have H : ((blotterref02_Change.f k l0).bind fun t516 => (blotterref02_Right.l0 k l0 t516 0)) = some r := h
 clear h
 replace H := Option.bind_eq_some_iff.mp H
 obtain ⟨t516, A20, H⟩ := H
 replace H : (blotterref02_Right.l0 k l0 t516 0) = some r := H
 have A2 := am A20
 clear A20
 have H' := am H
 clear H
 go_enter Tryd.func71, Tryd.ntmps71
 go_wp2_with (first | ((with_reducible refine gate_callee (f := 72) rfl ?_); refine goesL_ (some 6) rfl rfl Tryd.func72 (by kernel_rfl) rfl #[.slice A0 l0.length c0] rfl (by (try simp only [List.map_toArray, List.map_cons, List.map_nil]); first | done | rfl | (simp only [List.length_drop, List.length_take]; rfl)) ?_; (with_reducible refine (blotterref02_Change.calls k _ _ l0 t516 _ ?side1 ?side2 A2.out).mono ?_); (case side1 => exact ks HR0.out); (case side2 => exact HC0.out); rintro e w' ⟨rfl, ⟨nd, rfl⟩⟩; refine ⟨_, rfl, ?_⟩))
 go_loopg [4] k (fun kq v4 w' => ∃ (x4_1 : Int), v4 = .int .i64 x4_1 ∧ Aside0 (blotterref02_Right.l0 kq l0 t516 x4_1 = some r) ∧ Aside0 (kq ≤ k) ∧ Drawn0 w w')
 case atStart => exact ⟨(0), (rs), H', ⟨Nat.le_refl _⟩, dw⟩
 case round =>
  clear H'
  try clear p2
  obtain ⟨x4_1, rfl, HA, HK1, ⟨m1, rfl⟩⟩ := hrel
  cases gk with
  | zero => exact absurd HA.out (by simp [blotterref02_Right.l0])
  | succ k1 =>
   have H := HA.out
   clear HA
   simp only [blotterref02_Right.l0] at H
   have HC3 := am H
   clear H
   go_upto_region 3 with (fail)
   go_cut [14] (fun v14 wc => ∃ (kq : Nat) (x14_2 : Bool), v14 = .bool x14_2 ∧ Aside0 (blotterref02_Right.j1 kq l0 t516 x4_1 x14_2 = some r) ∧ Aside0 (kq ≤ k1) ∧ Drawn0 w wc)
   case first =>
    have H := HC3.out
    clear HC3
    by_cases c4 : x4_1 < (l0.length : Int)
    ·rw [if_pos c4] at H
     have c4b0 : decide (x4_1 < (l0.length : Int)) = true := decide_eq_true c4
     clear c4
     (first | rw [c4b0] | (simp only [i64_w, i32_w]; rw [c4b0]) | skip)
     have H' := am H
     clear H
     go_wp2
     go_meet
     case rel => exact ⟨_, ((t516 == 0)), (rs), H', ⟨by have := HK1.out; first | omega | exact Nat.le_refl _⟩, dw⟩
    rw [if_neg c4] at H
    have c4b0 : decide (x4_1 < (l0.length : Int)) = false := decide_eq_false c4
    clear c4
    (first | rw [c4b0] | (simp only [i64_w, i32_w]; rw [c4b0]) | skip)
    have H' := am H
    clear H
    go_wp2
    go_meet
    case rel => exact ⟨_, (false), (rs), H', ⟨by have := HK1.out; first | omega | exact Nat.le_refl _⟩, dw⟩
   case rest =>
    clear HC3
    try clear p2; try clear c4; try clear c4b0; try clear p2
    obtain ⟨kq, x14_2, rfl, HA, HJ2, ⟨mc2, rfl⟩⟩ := hcut
    cases kq with
    | zero => exact absurd HA.out (by simp [blotterref02_Right.j1])
    | succ kj2 =>
     have H := HA.out
     clear HA
     simp only [blotterref02_Right.j1] at H
     by_cases c5 : x14_2 = true
     ·subst c5
      have H1 : (if 0 ≤ x4_1 then (if x4_1 < (l0.length : Int) then (if ((rd_T90 l0 x4_1).f1).toList = ([] : List UInt8) then (some 20) else (blotterref02_Right.l0 kj2 l0 t516 (wrap64 (x4_1 + 1)))) else (none)) else (none)) = some r := by rw [if_pos rfl] at H; exact H
      clear H
      have H := H1
      clear H1
      by_cases c6 : 0 ≤ x4_1
      ·rw [if_pos c6] at H
       have c6b0 : decide (0 ≤ x4_1) = true := decide_eq_true c6
       clear c6
       by_cases c7 : x4_1 < (l0.length : Int)
       ·rw [if_pos c7] at H
        have c7b0 : decide (x4_1 < (l0.length : Int)) = true := decide_eq_true c7
        clear c7
        by_cases c8 : ((rd_T90 l0 x4_1).f1).toList = ([] : List UInt8)
        ·rw [if_pos c8] at H
         have c8b0 : (((rd_T90 l0 x4_1).f1).toList == ([] : List UInt8)) = true := beq_iff_eq.mpr c8
         have c8b1 : (((rd_T90 l0 x4_1).f1).toList != ([] : List UInt8)) = false := bne_eq_false_iff_eq.mpr c8
         clear c8
         obtain rfl := Option.some.inj H
         have p517 : 0 ≤ (x4_1 : Int) := oda
         have q517 : x4_1 < (l0.length : Int) := oda
         obtain ⟨ad517, e517, hx517_0, hx517_1⟩ := at_T90 HR0.out x4_1 p517 q517
         cases e517
         replace p517 := eq_true p517
         replace q517 := eq_true q517
         go_wp2
         go_ret
         exact ⟨rs, dw⟩
        rw [if_neg c8] at H
        have c8b0 : (((rd_T90 l0 x4_1).f1).toList == ([] : List UInt8)) = false := beq_eq_false_iff_ne.mpr c8
        have c8b1 : (((rd_T90 l0 x4_1).f1).toList != ([] : List UInt8)) = true := bne_iff_ne.mpr c8
        have H' := am H
        clear H
        have p517 : 0 ≤ (x4_1 : Int) := oda
        have q517 : x4_1 < (l0.length : Int) := oda
        obtain ⟨ad517, e517, hx517_0, hx517_1⟩ := at_T90 HR0.out x4_1 p517 q517
        cases e517
        replace p517 := eq_true p517
        replace q517 := eq_true q517
        go_wp2
        go_roundg kj2
        case measure => have := HK1.out; have := HJ2.out; omega
        case rel => exact ⟨(wrap64 (x4_1 + 1)), (rs), H', ⟨by have := HK1.out; have := HJ2.out; omega⟩, dw⟩
       rw [if_neg c7] at H
       exact absurd H (by simp)
      rw [if_neg c6] at H
      exact absurd H (by simp)
     replace c5 := Bool.eq_false_iff.mpr c5
     subst c5
     have H1 : (some t516) = some r := by rw [if_neg (show ¬ (false = true) by decide)] at H; exact H
     clear H
     have H := H1
     clear H1
     obtain rfl := Option.some.inj H
     go_wp2
     go_ret
     exact ⟨rs, dw⟩
end Go.Proofs.YtinbpjodheceoaaDoor.Sp
