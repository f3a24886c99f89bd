/- Written by this session's programs (sprint.py, prune.py). -/
import Derived.Test.YtinbpjodheceoaaDoorXgSp0
import Derived.Test.YtinbpjodheceoaaDoorXgSp29
namespace Go.Proofs.YtinbpjodheceoaaDoor.Sp
open Go.RowKit Go.Proofs.YtinbpjodheceoaaDoorW.PrintWords Go.Proofs.YtinbpjodheceoaaDoorW.PrintLast Go.Proofs.YtinbpjodheceoaaDoorW.PrintMore
attribute [local go_sem] max2_int min2_int max_two min_two max_three min_three max_four min_four   -- for this text's walks alone
set_option linter.unusedVariables false
set_option linter.unusedSimpArgs false
attribute [local go_sem] own_leq own_gtr own_geq   -- for this text's walks alone
def blotterref01_Count.f (k : Nat) (a0 : ByteArray) : Option (Int × Int) := (blotterref01_read.f k a0).bind fun bt506 => (if bt506.2 = true then (some ((bt506.1.length : Int), 0)) else (some (0, 10)))
theorem blotterref01_Count.mono : ∀ a0 k, LeO (blotterref01_Count.f k a0) (blotterref01_Count.f (k + 1) a0) := by
 intro a0 k
 unfold blotterref01_Count.f
 have m0 := @blotterref01_read.mono; exact lo
set_option maxHeartbeats 8000000 in
set_option maxRecDepth 100000 in
theorem blotterref01_Count.calls (k : Nat) (a0 : ByteArray) (r1 : Int) (r2 : Int) (w : World) (h : blotterref01_Count.f k a0 = some (r1, r2)) :
 Calls Tryd.prog 70 #[.string a0] w fun e w' => e = .returned (.tuple #[.int .i64 r1, .int .i64 r2]) ∧ Below w.heap.size w w' := by
 have HB := am (Below.refl w.heap.size w)
 have H : ((blotterref01_read.f k a0).bind fun bt506 => (if bt506.2 = true then (some ((bt506.1.length : Int), 0)) else (some (0, 10)))) = some (r1, r2) := h
 clear h
 replace H := Option.bind_eq_some_iff.mp H
 obtain ⟨⟨t506, t507⟩, A20, H⟩ := H
 replace H : (if t507 = true then (some ((t506.length : Int), 0)) else (some (0, 10))) = some (r1, r2) := H
 have A2 := am A20
 clear A20
 by_cases c3 : t507 = true
 ·subst c3
  have H1 : (some ((t506.length : Int), 0)) = some (r1, r2) := by rw [if_pos rfl] at H; exact H
  clear H
  have H := H1
  clear H1
  simp only [Option.some.injEq, Prod.mk.injEq] at H
  obtain ⟨rfl, rfl⟩ := H
  go_enter Tryd.func70, Tryd.ntmps70
  go_wp2_with (first | ((with_reducible refine gate_callee (f := 81) rfl ?_); refine goesL_ (some 8) rfl rfl Tryd.func81 (by kernel_rfl) rfl #[.string a0] rfl (by (try simp only [List.map_toArray, List.map_cons, List.map_nil]); first | done | rfl | (simp only [List.length_drop, List.length_take]; rfl)) ?_; (with_reducible refine (blotterref01_read.calls k a0 t506 true _ A2.out).mono ?_); rintro e w4 ⟨v508, rfl, ho0, hb⟩; refine ⟨_, rfl, ?_⟩; have HO509 := am (Kd.R_lower ho0 (below_size (bl HB.out))); have HB := am (below_step (bl HB.out) hb); (try clear hb); (try clear hb2); (try clear hk); (try clear hi); (try clear ho0); obtain ⟨Ao5, co5, eo5⟩ := Kd.R_slice HO509.out; subst eo5))
  go_ret2
  exact ⟨re, bl HB.out⟩
 replace c3 := Bool.eq_false_iff.mpr c3
 subst c3
 have H1 : (some (0, 10)) = some (r1, r2) := by rw [if_neg (show ¬ (false = true) by decide)] at H; exact H
 clear H
 have H := H1
 clear H1
 simp only [Option.some.injEq, Prod.mk.injEq] at H
 obtain ⟨rfl, rfl⟩ := H
 go_enter Tryd.func70, Tryd.ntmps70
 go_wp2_with (first | ((with_reducible refine gate_callee (f := 81) rfl ?_); refine goesL_ (some 8) rfl rfl Tryd.func81 (by kernel_rfl) rfl #[.string a0] rfl (by (try simp only [List.map_toArray, List.map_cons, List.map_nil]); first | done | rfl | (simp only [List.length_drop, List.length_take]; rfl)) ?_; (with_reducible refine (blotterref01_read.calls k a0 t506 false _ A2.out).mono ?_); rintro e w6 ⟨v508, rfl, ho0, hb⟩; refine ⟨_, rfl, ?_⟩; have HO509 := am (Kd.R_lower ho0 (below_size (bl HB.out))); have HB := am (below_step (bl HB.out) hb); (try clear hb); (try clear hb2); (try clear hk); (try clear hi); (try clear ho0)))
 go_ret2
 exact ⟨re, bl HB.out⟩
mutual
def blotterref02_key.l0 : Nat → ByteArray → Int → Option (Bool)
 | 0, _, _ => none
 | k + 1, x0, x3 => if x3 < (x0.size : Int) then (if 0 ≤ x3 then (if (bt x0 x3) ≥ 65 then (if (bt x0 x3) ≤ 90 then (blotterref02_key.j1 k x0 x3 (!true)) else (if (bt x0 x3) ≥ 97 then (if (bt x0 x3) ≤ 122 then (blotterref02_key.j1 k x0 x3 (!true)) else (if (bt x0 x3) ≥ 48 then (if (bt x0 x3) ≤ 57 then (blotterref02_key.j1 k x0 x3 (!true)) else (if (bt x0 x3) = 45 then (blotterref02_key.j1 k x0 x3 (!true)) else (blotterref02_key.j1 k x0 x3 (!((bt x0 x3) == 95))))) else (if (bt x0 x3) = 45 then (blotterref02_key.j1 k x0 x3 (!true)) else (blotterref02_key.j1 k x0 x3 (!((bt x0 x3) == 95)))))) else (if (bt x0 x3) ≥ 48 then (if (bt x0 x3) ≤ 57 then (blotterref02_key.j1 k x0 x3 (!true)) else (if (bt x0 x3) = 45 then (blotterref02_key.j1 k x0 x3 (!true)) else (blotterref02_key.j1 k x0 x3 (!((bt x0 x3) == 95))))) else (if (bt x0 x3) = 45 then (blotterref02_key.j1 k x0 x3 (!true)) else (blotterref02_key.j1 k x0 x3 (!((bt x0 x3) == 95))))))) else (if (bt x0 x3) ≥ 97 then (if (bt x0 x3) ≤ 122 then (blotterref02_key.j1 k x0 x3 (!true)) else (if (bt x0 x3) ≥ 48 then (if (bt x0 x3) ≤ 57 then (blotterref02_key.j1 k x0 x3 (!true)) else (if (bt x0 x3) = 45 then (blotterref02_key.j1 k x0 x3 (!true)) else (blotterref02_key.j1 k x0 x3 (!((bt x0 x3) == 95))))) else (if (bt x0 x3) = 45 then (blotterref02_key.j1 k x0 x3 (!true)) else (blotterref02_key.j1 k x0 x3 (!((bt x0 x3) == 95)))))) else (if (bt x0 x3) ≥ 48 then (if (bt x0 x3) ≤ 57 then (blotterref02_key.j1 k x0 x3 (!true)) else (if (bt x0 x3) = 45 then (blotterref02_key.j1 k x0 x3 (!true)) else (blotterref02_key.j1 k x0 x3 (!((bt x0 x3) == 95))))) else (if (bt x0 x3) = 45 then (blotterref02_key.j1 k x0 x3 (!true)) else (blotterref02_key.j1 k x0 x3 (!((bt x0 x3) == 95))))))) else (none)) else (if (x0.size : Int) ≥ 1 then (some (decide ((x0.size : Int) ≤ 32))) else (some false))
def blotterref02_key.j1 : Nat → ByteArray → Int → Bool → Option (Bool)
 | 0, _, _, _ => none
 | k + 1, x0, x3, x44 => if x44 = true then (some false) else (blotterref02_key.l0 k x0 (wrap64 (x3 + 1)))
end
def blotterref02_key.f (k : Nat) (a0 : ByteArray) : Option (Bool) := blotterref02_key.l0 k a0 0
theorem blotterref02_key.mono_l : ∀ k, (∀ y0 y1, LeO (blotterref02_key.l0 k y0 y1) (blotterref02_key.l0 (k + 1) y0 y1)) ∧ (∀ y0 y1 y2, LeO (blotterref02_key.j1 k y0 y1 y2) (blotterref02_key.j1 (k + 1) y0 y1 y2))
 | 0 => ⟨fun _ _ r h => by simp [blotterref02_key.l0] at h, fun _ _ _ r h => by simp [blotterref02_key.j1] at h⟩
 | k + 1 => by
  obtain ⟨ih0, ih1⟩ := blotterref02_key.mono_l k
  refine ⟨?_, ?_⟩
  ·intro y0 y1
   unfold blotterref02_key.l0
   exact lo
  intro y0 y1 y2
  unfold blotterref02_key.j1
  exact lo
theorem blotterref02_key.mono : ∀ a0 k, LeO (blotterref02_key.f k a0) (blotterref02_key.f (k + 1) a0) := by
 intro a0 k
 obtain ⟨ih0, ih1⟩ := blotterref02_key.mono_l k
 unfold blotterref02_key.f
 exact lo
set_option maxHeartbeats 8000000 in
set_option maxRecDepth 100000 in
theorem blotterref02_key.calls (k : Nat) (a0 : ByteArray) (r : Bool) (w : World) (h : blotterref02_key.f k a0 = some r) :
 Calls Tryd.prog 82 #[.string a0] w fun e w' => e = .returned (.bool r) ∧ Drawn0 w w' := by
 have H : (blotterref02_key.l0 k a0 0) = some r := h
 clear h
 have H' := am H
 clear H
 go_enter Tryd.func82, Tryd.ntmps82
 go_wp2
 go_loopg [3] k (fun kq v3 w' => ∃ (x3_1 : Int), v3 = .int .i64 x3_1 ∧ Aside0 (blotterref02_key.l0 kq a0 x3_1 = some r) ∧ Aside0 (kq ≤ k) ∧ Drawn0 w w')
 case atStart => exact ⟨(0), (rs), H', ⟨Nat.le_refl _⟩, dw⟩
 case round =>
  clear H'
  obtain ⟨x3_1, rfl, HA, HK1, ⟨m1, rfl⟩⟩ := hrel
  cases gk with
  | zero => exact absurd HA.out (by simp [blotterref02_key.l0])
  | succ k1 =>
   have H := HA.out
   clear HA
   simp only [blotterref02_key.l0] at H
   by_cases c2 : x3_1 < (a0.size : Int)
   ·rw [if_pos c2] at H
    have c2b0 : decide (x3_1 < (a0.size : Int)) = true := decide_eq_true c2
    clear c2
    by_cases c3 : 0 ≤ x3_1
    ·rw [if_pos c3] at H
     have c3b0 : decide (0 ≤ x3_1) = true := decide_eq_true c3
     clear c3
     have HC5 := am H
     clear H
     have p4 : 0 ≤ (x3_1 : Int) := oda
     have q4 : x3_1 < (a0.size : Int) := oda
     have hx4 := bt_at a0 x3_1
     replace p4 := eq_true p4
     replace q4 := eq_true q4
     go_upto_region 5 with (fail)
     go_cut [44] (fun v44 wc => ∃ (kq : Nat) (x44_4 : Bool), v44 = .bool x44_4 ∧ Aside0 (blotterref02_key.j1 kq a0 x3_1 x44_4 = some r) ∧ Aside0 (kq ≤ k1) ∧ Drawn0 w wc)
     case first =>
      have H := HC5.out
      clear HC5
      by_cases c6 : (bt a0 x3_1) ≥ 65
      ·rw [if_pos c6] at H
       have c6b0 : decide (65 ≤ (bt a0 x3_1)) = true := decide_eq_true c6
       clear c6
       (first | rw [c6b0] | (simp only [i64_w, i32_w]; rw [c6b0]) | skip)
       by_cases c7 : (bt a0 x3_1) ≤ 90
       ·rw [if_pos c7] at H
        have c7b0 : decide ((bt a0 x3_1) ≤ 90) = true := decide_eq_true c7
        clear c7
        have H' := am H
        clear H
        go_wp2
        go_meet
        case rel => exact ⟨_, (!true), (rs), H', ⟨by have := HK1.out; first | omega | exact Nat.le_refl _⟩, dw⟩
       rw [if_neg c7] at H
       have c7b0 : decide ((bt a0 x3_1) ≤ 90) = false := decide_eq_false c7
       clear c7
       by_cases c8 : (bt a0 x3_1) ≥ 97
       ·rw [if_pos c8] at H
        have c8b0 : decide (97 ≤ (bt a0 x3_1)) = true := decide_eq_true c8
        clear c8
        by_cases c9 : (bt a0 x3_1) ≤ 122
        ·rw [if_pos c9] at H
         have c9b0 : decide ((bt a0 x3_1) ≤ 122) = true := decide_eq_true c9
         clear c9
         have H' := am H
         clear H
         go_wp2
         go_meet
         case rel => exact ⟨_, (!true), (rs), H', ⟨by have := HK1.out; first | omega | exact Nat.le_refl _⟩, dw⟩
        rw [if_neg c9] at H
        have c9b0 : decide ((bt a0 x3_1) ≤ 122) = false := decide_eq_false c9
        clear c9
        by_cases c10 : (bt a0 x3_1) ≥ 48
        ·rw [if_pos c10] at H
         have c10b0 : decide (48 ≤ (bt a0 x3_1)) = true := decide_eq_true c10
         clear c10
         by_cases c11 : (bt a0 x3_1) ≤ 57
         ·rw [if_pos c11] at H
          have c11b0 : decide ((bt a0 x3_1) ≤ 57) = true := decide_eq_true c11
          clear c11
          have H' := am H
          clear H
          go_wp2
          go_meet
          case rel => exact ⟨_, (!true), (rs), H', ⟨by have := HK1.out; first | omega | exact Nat.le_refl _⟩, dw⟩
         rw [if_neg c11] at H
         have c11b0 : decide ((bt a0 x3_1) ≤ 57) = false := decide_eq_false c11
         clear c11
         by_cases c12 : (bt a0 x3_1) = 45
         ·rw [if_pos c12] at H
          have c12b0 : ((bt a0 x3_1) == 45) = true := beq_iff_eq.mpr c12
          have c12b1 : ((bt a0 x3_1) != 45) = false := bne_eq_false_iff_eq.mpr c12
          clear c12
          have H' := am H
          clear H
          go_wp2
          go_meet
          case rel => exact ⟨_, (!true), (rs), H', ⟨by have := HK1.out; first | omega | exact Nat.le_refl _⟩, dw⟩
         rw [if_neg c12] at H
         have c12b0 : ((bt a0 x3_1) == 45) = false := beq_eq_false_iff_ne.mpr c12
         have c12b1 : ((bt a0 x3_1) != 45) = true := bne_iff_ne.mpr c12
         have H' := am H
         clear H
         go_wp2
         go_meet
         case rel => exact ⟨_, (!((bt a0 x3_1) == 95)), (rs), H', ⟨by have := HK1.out; first | omega | exact Nat.le_refl _⟩, dw⟩
        rw [if_neg c10] at H
        have c10b0 : decide (48 ≤ (bt a0 x3_1)) = false := decide_eq_false c10
        clear c10
        by_cases c13 : (bt a0 x3_1) = 45
        ·rw [if_pos c13] at H
         have c13b0 : ((bt a0 x3_1) == 45) = true := beq_iff_eq.mpr c13
         have c13b1 : ((bt a0 x3_1) != 45) = false := bne_eq_false_iff_eq.mpr c13
         clear c13
         have H' := am H
         clear H
         go_wp2
         go_meet
         case rel => exact ⟨_, (!true), (rs), H', ⟨by have := HK1.out; first | omega | exact Nat.le_refl _⟩, dw⟩
        rw [if_neg c13] at H
        have c13b0 : ((bt a0 x3_1) == 45) = false := beq_eq_false_iff_ne.mpr c13
        have c13b1 : ((bt a0 x3_1) != 45) = true := bne_iff_ne.mpr c13
        have H' := am H
        clear H
        go_wp2
        go_meet
        case rel => exact ⟨_, (!((bt a0 x3_1) == 95)), (rs), H', ⟨by have := HK1.out; first | omega | exact Nat.le_refl _⟩, dw⟩
       rw [if_neg c8] at H
       have c8b0 : decide (97 ≤ (bt a0 x3_1)) = false := decide_eq_false c8
       clear c8
       by_cases c14 : (bt a0 x3_1) ≥ 48
       ·rw [if_pos c14] at H
        have c14b0 : decide (48 ≤ (bt a0 x3_1)) = true := decide_eq_true c14
        clear c14
        by_cases c15 : (bt a0 x3_1) ≤ 57
        ·rw [if_pos c15] at H
         have c15b0 : decide ((bt a0 x3_1) ≤ 57) = true := decide_eq_true c15
         clear c15
         have H' := am H
         clear H
         go_wp2
         go_meet
         case rel => exact ⟨_, (!true), (rs), H', ⟨by have := HK1.out; first | omega | exact Nat.le_refl _⟩, dw⟩
        rw [if_neg c15] at H
        have c15b0 : decide ((bt a0 x3_1) ≤ 57) = false := decide_eq_false c15
        clear c15
        by_cases c16 : (bt a0 x3_1) = 45
        ·rw [if_pos c16] at H
         have c16b0 : ((bt a0 x3_1) == 45) = true := beq_iff_eq.mpr c16
         have c16b1 : ((bt a0 x3_1) != 45) = false := bne_eq_false_iff_eq.mpr c16
         clear c16
         have H' := am H
         clear H
         go_wp2
         go_meet
         case rel => exact ⟨_, (!true), (rs), H', ⟨by have := HK1.out; first | omega | exact Nat.le_refl _⟩, dw⟩
        rw [if_neg c16] at H
        have c16b0 : ((bt a0 x3_1) == 45) = false := beq_eq_false_iff_ne.mpr c16
        have c16b1 : ((bt a0 x3_1) != 45) = true := bne_iff_ne.mpr c16
        have H' := am H
        clear H
        go_wp2
        go_meet
        case rel => exact ⟨_, (!((bt a0 x3_1) == 95)), (rs), H', ⟨by have := HK1.out; first | omega | exact Nat.le_refl _⟩, dw⟩
       rw [if_neg c14] at H
       have c14b0 : decide (48 ≤ (bt a0 x3_1)) = false := decide_eq_false c14
       clear c14
       by_cases c17 : (bt a0 x3_1) = 45
       ·rw [if_pos c17] at H
        have c17b0 : ((bt a0 x3_1) == 45) = true := beq_iff_eq.mpr c17
        have c17b1 : ((bt a0 x3_1) != 45) = false := bne_eq_false_iff_eq.mpr c17
        clear c17
        have H' := am H
        clear H
        go_wp2
        go_meet
        case rel => exact ⟨_, (!true), (rs), H', ⟨by have := HK1.out; first | omega | exact Nat.le_refl _⟩, dw⟩
       rw [if_neg c17] at H
       have c17b0 : ((bt a0 x3_1) == 45) = false := beq_eq_false_iff_ne.mpr c17
       have c17b1 : ((bt a0 x3_1) != 45) = true := bne_iff_ne.mpr c17
       have H' := am H
       clear H
       go_wp2
       go_meet
       case rel => exact ⟨_, (!((bt a0 x3_1) == 95)), (rs), H', ⟨by have := HK1.out; first | omega | exact Nat.le_refl _⟩, dw⟩
      rw [if_neg c6] at H
      have c6b0 : decide (65 ≤ (bt a0 x3_1)) = false := decide_eq_false c6
      clear c6
      (first | rw [c6b0] | (simp only [i64_w, i32_w]; rw [c6b0]) | skip)
      by_cases c18 : (bt a0 x3_1) ≥ 97
      ·rw [if_pos c18] at H
       have c18b0 : decide (97 ≤ (bt a0 x3_1)) = true := decide_eq_true c18
       clear c18
       by_cases c19 : (bt a0 x3_1) ≤ 122
       ·rw [if_pos c19] at H
        have c19b0 : decide ((bt a0 x3_1) ≤ 122) = true := decide_eq_true c19
        clear c19
        have H' := am H
        clear H
        go_wp2
        go_meet
        case rel => exact ⟨_, (!true), (rs), H', ⟨by have := HK1.out; first | omega | exact Nat.le_refl _⟩, dw⟩
       rw [if_neg c19] at H
       have c19b0 : decide ((bt a0 x3_1) ≤ 122) = false := decide_eq_false c19
       clear c19
       by_cases c20 : (bt a0 x3_1) ≥ 48
       ·rw [if_pos c20] at H
        have c20b0 : decide (48 ≤ (bt a0 x3_1)) = true := decide_eq_true c20
        clear c20
        by_cases c21 : (bt a0 x3_1) ≤ 57
        ·rw [if_pos c21] at H
         have c21b0 : decide ((bt a0 x3_1) ≤ 57) = true := decide_eq_true c21
         clear c21
         have H' := am H
         clear H
         go_wp2
         go_meet
         case rel => exact ⟨_, (!true), (rs), H', ⟨by have := HK1.out; first | omega | exact Nat.le_refl _⟩, dw⟩
        rw [if_neg c21] at H
        have c21b0 : decide ((bt a0 x3_1) ≤ 57) = false := decide_eq_false c21
        clear c21
        by_cases c22 : (bt a0 x3_1) = 45
        ·rw [if_pos c22] at H
         have c22b0 : ((bt a0 x3_1) == 45) = true := beq_iff_eq.mpr c22
         have c22b1 : ((bt a0 x3_1) != 45) = false := bne_eq_false_iff_eq.mpr c22
         clear c22
         have H' := am H
         clear H
         go_wp2
         go_meet
         case rel => exact ⟨_, (!true), (rs), H', ⟨by have := HK1.out; first | omega | exact Nat.le_refl _⟩, dw⟩
        rw [if_neg c22] at H
        have c22b0 : ((bt a0 x3_1) == 45) = false := beq_eq_false_iff_ne.mpr c22
        have c22b1 : ((bt a0 x3_1) != 45) = true := bne_iff_ne.mpr c22
        have H' := am H
        clear H
        go_wp2
        go_meet
        case rel => exact ⟨_, (!((bt a0 x3_1) == 95)), (rs), H', ⟨by have := HK1.out; first | omega | exact Nat.le_refl _⟩, dw⟩
       rw [if_neg c20] at H
       have c20b0 : decide (48 ≤ (bt a0 x3_1)) = false := decide_eq_false c20
       clear c20
       by_cases c23 : (bt a0 x3_1) = 45
       ·rw [if_pos c23] at H
        have c23b0 : ((bt a0 x3_1) == 45) = true := beq_iff_eq.mpr c23
        have c23b1 : ((bt a0 x3_1) != 45) = false := bne_eq_false_iff_eq.mpr c23
        clear c23
        have H' := am H
        clear H
        go_wp2
        go_meet
        case rel => exact ⟨_, (!true), (rs), H', ⟨by have := HK1.out; first | omega | exact Nat.le_refl _⟩, dw⟩
       rw [if_neg c23] at H
       have c23b0 : ((bt a0 x3_1) == 45) = false := beq_eq_false_iff_ne.mpr c23
       have c23b1 : ((bt a0 x3_1) != 45) = true := bne_iff_ne.mpr c23
       have H' := am H
       clear H
       go_wp2
       go_meet
       case rel => exact ⟨_, (!((bt a0 x3_1) == 95)), (rs), H', ⟨by have := HK1.out; first | omega | exact Nat.le_refl _⟩, dw⟩
      rw [if_neg c18] at H
      have c18b0 : decide (97 ≤ (bt a0 x3_1)) = false := decide_eq_false c18
      clear c18
      by_cases c24 : (bt a0 x3_1) ≥ 48
      ·rw [if_pos c24] at H
       have c24b0 : decide (48 ≤ (bt a0 x3_1)) = true := decide_eq_true c24
       clear c24
       by_cases c25 : (bt a0 x3_1) ≤ 57
       ·rw [if_pos c25] at H
        have c25b0 : decide ((bt a0 x3_1) ≤ 57) = true := decide_eq_true c25
        clear c25
        have H' := am H
        clear H
        go_wp2
        go_meet
        case rel => exact ⟨_, (!true), (rs), H', ⟨by have := HK1.out; first | omega | exact Nat.le_refl _⟩, dw⟩
       rw [if_neg c25] at H
       have c25b0 : decide ((bt a0 x3_1) ≤ 57) = false := decide_eq_false c25
       clear c25
       by_cases c26 : (bt a0 x3_1) = 45
       ·rw [if_pos c26] at H
        have c26b0 : ((bt a0 x3_1) == 45) = true := beq_iff_eq.mpr c26
        have c26b1 : ((bt a0 x3_1) != 45) = false := bne_eq_false_iff_eq.mpr c26
        clear c26
        have H' := am H
        clear H
        go_wp2
        go_meet
        case rel => exact ⟨_, (!true), (rs), H', ⟨by have := HK1.out; first | omega | exact Nat.le_refl _⟩, dw⟩
       rw [if_neg c26] at H
       have c26b0 : ((bt a0 x3_1) == 45) = false := beq_eq_false_iff_ne.mpr c26
       have c26b1 : ((bt a0 x3_1) != 45) = true := bne_iff_ne.mpr c26
       have H' := am H
       clear H
       go_wp2
       go_meet
       case rel => exact ⟨_, (!((bt a0 x3_1) == 95)), (rs), H', ⟨by have := HK1.out; first | omega | exact Nat.le_refl _⟩, dw⟩
      rw [if_neg c24] at H
      have c24b0 : decide (48 ≤ (bt a0 x3_1)) = false := decide_eq_false c24
      clear c24
      by_cases c27 : (bt a0 x3_1) = 45
      ·rw [if_pos c27] at H
       have c27b0 : ((bt a0 x3_1) == 45) = true := beq_iff_eq.mpr c27
       have c27b1 : ((bt a0 x3_1) != 45) = false := bne_eq_false_iff_eq.mpr c27
       clear c27
       have H' := am H
       clear H
       go_wp2
       go_meet
       case rel => exact ⟨_, (!true), (rs), H', ⟨by have := HK1.out; first | omega | exact Nat.le_refl _⟩, dw⟩
      rw [if_neg c27] at H
      have c27b0 : ((bt a0 x3_1) == 45) = false := beq_eq_false_iff_ne.mpr c27
      have c27b1 : ((bt a0 x3_1) != 45) = true := bne_iff_ne.mpr c27
      have H' := am H
      clear H
      go_wp2
      go_meet
      case rel => exact ⟨_, (!((bt a0 x3_1) == 95)), (rs), H', ⟨by have := HK1.out; first | omega | exact Nat.le_refl _⟩, dw⟩
     case rest =>
      clear HC5
      try clear c1; try clear c2; try clear c2b0; try clear p2; try clear c3; try clear c3b0; try clear p4; try clear q4; try clear hx4; try clear c6; try clear c6b0; try clear c7; try clear c7b0; try clear c8; try clear c8b0; try clear c9; try clear c9b0; try clear c10; try clear c10b0; try clear c11; try clear c11b0; try clear c12; try clear c12b0; try clear c12b1; try clear c13; try clear c13b0; try clear c13b1; try clear c14; try clear c14b0; try clear c15; try clear c15b0; try clear c16; try clear c16b0; try clear c16b1; try clear c17; try clear c17b0; try clear c17b1; try clear c18; try clear c18b0; try clear c19; try clear c19b0; try clear c20; try clear c20b0; try clear c21; try clear c21b0; try clear c22; try clear c22b0; try clear c22b1; try clear c23; try clear c23b0; try clear c23b1; try clear c24; try clear c24b0; try clear c25; try clear c25b0; try clear c26; try clear c26b0; try clear c26b1; try clear c27; try clear c27b0; try clear c27b1; try clear p4; try clear q4
      obtain ⟨kq, x44_4, rfl, HA, HJ4, ⟨mc4, rfl⟩⟩ := hcut
      cases kq with
      | zero => exact absurd HA.out (by simp [blotterref02_key.j1])
      | succ kj4 =>
       have H := HA.out
       clear HA
       simp only [blotterref02_key.j1] at H
       by_cases c28 : x44_4 = true
       ·subst c28
        have H1 : (some false) = some r := by rw [if_pos rfl] at H; exact H
        clear H
        have H := H1
        clear H1
        obtain rfl := Option.some.inj H
        go_wp2
        go_ret
        exact ⟨rs, dw⟩
       replace c28 := Bool.eq_false_iff.mpr c28
       subst c28
       have H1 : (blotterref02_key.l0 kj4 a0 (wrap64 (x3_1 + 1))) = some r := by rw [if_neg (show ¬ (false = true) by decide)] at H; exact H
       clear H
       have H := H1
       clear H1
       have H' := am H
       clear H
       go_wp2
       go_roundg kj4
       case measure => have := HK1.out; have := HJ4.out; omega
       case rel => exact ⟨(wrap64 (x3_1 + 1)), (rs), H', ⟨by have := HK1.out; have := HJ4.out; omega⟩, dw⟩
    rw [if_neg c3] at H
    exact absurd H (by simp)
   rw [if_neg c2] at H
   have c2b0 : decide (x3_1 < (a0.size : Int)) = false := decide_eq_false c2
   clear c2
   by_cases c29 : (a0.size : Int) ≥ 1
   ·rw [if_pos c29] at H
    have c29b0 : decide (1 ≤ (a0.size : Int)) = true := decide_eq_true c29
    have c29b1 : decide (1 ≤ a0.size) = true := decide_eq_true (by omega)
    clear c29
    obtain rfl := Option.some.inj H
    go_wp2
    go_ret
    exact ⟨rs, dw⟩
   rw [if_neg c29] at H
   have c29b0 : decide (1 ≤ (a0.size : Int)) = false := decide_eq_false c29
   have c29b1 : decide (1 ≤ a0.size) = false := decide_eq_false (by omega)
   clear c29
   obtain rfl := Option.some.inj H
   go_wp2
   go_ret
   exact ⟨rs, dw⟩
mutual
def blotterref02_value.l0 : Nat → ByteArray → Int → Option (Bool)
 | 0, _, _ => none
 | k + 1, x0, x3 => if x3 < (x0.size : Int) then (if 0 ≤ x3 then (if (bt x0 x3) < 32 then (blotterref02_value.j1 k x0 x3 true) else (blotterref02_value.j1 k x0 x3 (decide ((bt x0 x3) > 126)))) else (none)) else (some (decide ((x0.size : Int) ≤ 64)))
def blotterref02_value.j1 : Nat → ByteArray → Int → Bool → Option (Bool)
 | 0, _, _, _ => none
 | k + 1, x0, x3, x19 => if x19 = true then (some false) else (blotterref02_value.l0 k x0 (wrap64 (x3 + 1)))
end
def blotterref02_value.f (k : Nat) (a0 : ByteArray) : Option (Bool) := blotterref02_value.l0 k a0 0
theorem blotterref02_value.mono_l : ∀ k, (∀ y0 y1, LeO (blotterref02_value.l0 k y0 y1) (blotterref02_value.l0 (k + 1) y0 y1)) ∧ (∀ y0 y1 y2, LeO (blotterref02_value.j1 k y0 y1 y2) (blotterref02_value.j1 (k + 1) y0 y1 y2))
 | 0 => ⟨fun _ _ r h => by simp [blotterref02_value.l0] at h, fun _ _ _ r h => by simp [blotterref02_value.j1] at h⟩
 | k + 1 => by
  obtain ⟨ih0, ih1⟩ := blotterref02_value.mono_l k
  refine ⟨?_, ?_⟩
  ·intro y0 y1
   unfold blotterref02_value.l0
   exact lo
  intro y0 y1 y2
  unfold blotterref02_value.j1
  exact lo
theorem blotterref02_value.mono : ∀ a0 k, LeO (blotterref02_value.f k a0) (blotterref02_value.f (k + 1) a0) := by
 intro a0 k
 obtain ⟨ih0, ih1⟩ := blotterref02_value.mono_l k
 unfold blotterref02_value.f
 exact lo
set_option maxHeartbeats 8000000 in
set_option maxRecDepth 100000 in
theorem blotterref02_value.calls (k : Nat) (a0 : ByteArray) (r : Bool) (w : World) (h : blotterref02_value.f k a0 = some r) :
 Calls Tryd.prog 83 #[.string a0] w fun e w' => e = .returned (.bool r) ∧ Drawn0 w w' := by
 have H : (blotterref02_value.l0 k a0 0) = some r := h
 clear h
 have H' := am H
 clear H
 go_enter Tryd.func83, Tryd.ntmps83
 go_wp2
 go_loopg [3] k (fun kq v3 w' => ∃ (x3_1 : Int), v3 = .int .i64 x3_1 ∧ Aside0 (blotterref02_value.l0 kq a0 x3_1 = some r) ∧ Aside0 (kq ≤ k) ∧ Drawn0 w w')
 case atStart => exact ⟨(0), (rs), H', ⟨Nat.le_refl _⟩, dw⟩
 case round =>
  clear H'
  obtain ⟨x3_1, rfl, HA, HK1, ⟨m1, rfl⟩⟩ := hrel
  cases gk with
  | zero => exact absurd HA.out (by simp [blotterref02_value.l0])
  | succ k1 =>
   have H := HA.out
   clear HA
   simp only [blotterref02_value.l0] at H
   by_cases c2 : x3_1 < (a0.size : Int)
   ·rw [if_pos c2] at H
    have c2b0 : decide (x3_1 < (a0.size : Int)) = true := decide_eq_true c2
    clear c2
    have HC3 := am H
    clear H
    go_upto_region 4 with (fail)
    go_cut [19] (fun v19 wc => ∃ (kq : Nat) (x19_2 : Bool), v19 = .bool x19_2 ∧ Aside0 (blotterref02_value.j1 kq a0 x3_1 x19_2 = some r) ∧ Aside0 (kq ≤ k1) ∧ Drawn0 w wc)
    case first =>
     have H := HC3.out
     clear HC3
     by_cases c4 : 0 ≤ x3_1
     ·rw [if_pos c4] at H
      have c4b0 : decide (0 ≤ x3_1) = true := decide_eq_true c4
      clear c4
      (first | rw [c4b0] | (simp only [i64_w, i32_w]; rw [c4b0]) | skip)
      by_cases c6 : (bt a0 x3_1) < 32
      ·rw [if_pos c6] at H
       have c6b0 : decide ((bt a0 x3_1) < 32) = true := decide_eq_true c6
       clear c6
       have H' := am H
       clear H
       have p5 : 0 ≤ (x3_1 : Int) := oda
       have q5 : x3_1 < (a0.size : Int) := oda
       have hx5 := bt_at a0 x3_1
       replace p5 := eq_true p5
       replace q5 := eq_true q5
       go_wp2
       go_meet
       case rel => exact ⟨_, (true), (rs), H', ⟨by have := HK1.out; first | omega | exact Nat.le_refl _⟩, dw⟩
      rw [if_neg c6] at H
      have c6b0 : decide ((bt a0 x3_1) < 32) = false := decide_eq_false c6
      clear c6
      have H' := am H
      clear H
      have p5 : 0 ≤ (x3_1 : Int) := oda
      have q5 : x3_1 < (a0.size : Int) := oda
      have hx5 := bt_at a0 x3_1
      replace p5 := eq_true p5
      replace q5 := eq_true q5
      have p7 : 0 ≤ (x3_1 : Int) := oda
      have q7 : x3_1 < (a0.size : Int) := oda
      have hx7 := bt_at a0 x3_1
      replace p7 := eq_true p7
      replace q7 := eq_true q7
      go_wp2
      go_meet
      case rel => exact ⟨_, (decide ((bt a0 x3_1) > 126)), (rs), H', ⟨by have := HK1.out; first | omega | exact Nat.le_refl _⟩, dw⟩
     rw [if_neg c4] at H
     exact absurd H (by simp)
    case rest =>
     clear HC3
     try clear c2; try clear c2b0; try clear p2; try clear c4; try clear c4b0; try clear p5; try clear q5; try clear hx5; try clear c6; try clear c6b0; try clear p7; try clear q7; try clear hx7; try clear p5; try clear p7; try clear q5; try clear q7
     obtain ⟨kq, x19_2, rfl, HA, HJ2, ⟨mc2, rfl⟩⟩ := hcut
     cases kq with
     | zero => exact absurd HA.out (by simp [blotterref02_value.j1])
     | succ kj2 =>
      have H := HA.out
      clear HA
      simp only [blotterref02_value.j1] at H
      by_cases c8 : x19_2 = true
      ·subst c8
       have H1 : (some false) = some r := by rw [if_pos rfl] at H; exact H
       clear H
       have H := H1
       clear H1
       obtain rfl := Option.some.inj H
       go_wp2
       go_ret
       exact ⟨rs, dw⟩
      replace c8 := Bool.eq_false_iff.mpr c8
      subst c8
      have H1 : (blotterref02_value.l0 kj2 a0 (wrap64 (x3_1 + 1))) = some r := by rw [if_neg (show ¬ (false = true) by decide)] at H; exact H
      clear H
      have H := H1
      clear H1
      have H' := am H
      clear H
      go_wp2
      go_roundg kj2
      case measure => have := HK1.out; have := HJ2.out; omega
      case rel => exact ⟨(wrap64 (x3_1 + 1)), (rs), H', ⟨by have := HK1.out; have := HJ2.out; omega⟩, dw⟩
   rw [if_neg c2] at H
   have c2b0 : decide (x3_1 < (a0.size : Int)) = false := decide_eq_false c2
   clear c2
   obtain rfl := Option.some.inj H
   go_wp2
   go_ret
   exact ⟨rs, dw⟩
end Go.Proofs.YtinbpjodheceoaaDoor.Sp
