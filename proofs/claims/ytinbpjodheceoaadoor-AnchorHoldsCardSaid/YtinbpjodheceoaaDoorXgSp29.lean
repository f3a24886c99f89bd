/- Written by this session's programs (sprint.py, prune.py). -/
import Derived.Test.YtinbpjodheceoaaDoorXgSp0
namespace Go.Proofs.YtinbpjodheceoaaDoor.Sp
open Go.RowKit Go.Proofs.YtinbpjodheceoaaDoorW.PrintWords Go.Proofs.YtinbpjodheceoaaDoorW.PrintLast Go.Proofs.YtinbpjodheceoaaDoorW.PrintMore
attribute [local go_sem] max2_int min2_int max_two min_two max_three min_three max_four min_four   -- for this text's walks alone
set_option linter.unusedVariables false
set_option linter.unusedSimpArgs false
attribute [local go_sem] own_leq own_gtr own_geq   -- for this text's walks alone
mutual
def blotterref01_read.l0 : Nat → ByteArray → List Int → Int → Option (List Int × Bool)
 | 0, _, _, _ => none
 | k + 1, x0, x4, x5 => if x5 < (x0.size : Int) then (if 0 ≤ x5 then (if (wrap64 (bt x0 x5)) < 128 then (blotterref01_read.j4 k x0 x4 x5 (wrap64 (bt x0 x5)) 0 0) else (if (wrap64 (bt x0 x5)) ≥ 192 then (blotterref01_read.j1 k x0 x4 x5 (wrap64 (bt x0 x5)) (decide ((wrap64 (bt x0 x5)) < 224))) else (blotterref01_read.j1 k x0 x4 x5 (wrap64 (bt x0 x5)) false))) else (none)) else (some (x4, decide ((x4.length : Int) ≤ 20000)))
def blotterref01_read.j4 : Nat → ByteArray → List Int → Int → Int → Int → Int → Option (List Int × Bool)
 | 0, _, _, _, _, _, _ => none
 | k + 1, x0, x4, x5, x6, x7, x8 => if (wrap64 (x5 + x7)) ≥ (x0.size : Int) then (some (([] : List Int), false)) else (blotterref01_read.l1 k x0 x4 x5 x6 x7 x8 1)
def blotterref01_read.l1 : Nat → ByteArray → List Int → Int → Int → Int → Int → Int → Option (List Int × Bool)
 | 0, _, _, _, _, _, _, _ => none
 | k + 1, x0, x4, x5, x6, x7, x8, x9 => if x9 ≤ x7 then (if 0 ≤ (wrap64 (x5 + x9)) then (if (wrap64 (x5 + x9)) < (x0.size : Int) then (if (wrap64 (bt x0 (wrap64 (x5 + x9)))) < 128 then (blotterref01_read.j6 k x0 x4 x5 x6 x7 x8 x9 (wrap64 (bt x0 (wrap64 (x5 + x9)))) true) else (blotterref01_read.j6 k x0 x4 x5 x6 x7 x8 x9 (wrap64 (bt x0 (wrap64 (x5 + x9)))) (decide ((wrap64 (bt x0 (wrap64 (x5 + x9)))) > 191)))) else (none)) else (none)) else (if x6 < x8 then (blotterref01_read.j7 k x0 x4 x5 x6 x7 true) else (if x6 ≥ 55296 then (if x6 ≤ 57343 then (blotterref01_read.j7 k x0 x4 x5 x6 x7 true) else (blotterref01_read.j7 k x0 x4 x5 x6 x7 (decide (x6 > 1114111)))) else (blotterref01_read.j7 k x0 x4 x5 x6 x7 (decide (x6 > 1114111)))))
def blotterref01_read.j6 : Nat → ByteArray → List Int → Int → Int → Int → Int → Int → Int → Bool → Option (List Int × Bool)
 | 0, _, _, _, _, _, _, _, _, _ => none
 | k + 1, x0, x4, x5, x6, x7, x8, x9, x10, x71 => if x71 = true then (some (([] : List Int), false)) else (blotterref01_read.l1 k x0 x4 x5 (wrap64 ((wrap64 ((wrap64 (x6 * 64)) + x10)) - 128)) x7 x8 (wrap64 (x9 + 1)))
def blotterref01_read.j7 : Nat → ByteArray → List Int → Int → Int → Int → Bool → Option (List Int × Bool)
 | 0, _, _, _, _, _, _ => none
 | k + 1, x0, x4, x5, x6, x7, x91 => if x91 = true then (some (([] : List Int), false)) else (if x4.length < 17592186044416 then (blotterref01_read.l0 k x0 (x4 ++ [x6]) (wrap64 ((wrap64 (x5 + x7)) + 1))) else (none))
def blotterref01_read.j1 : Nat → ByteArray → List Int → Int → Int → Bool → Option (List Int × Bool)
 | 0, _, _, _, _, _ => none
 | k + 1, x0, x4, x5, x6, x22 => if x22 = true then (blotterref01_read.j4 k x0 x4 x5 (wrap64 (x6 - 192)) 1 128) else (if x6 ≥ 224 then (blotterref01_read.j2 k x0 x4 x5 x6 (decide (x6 < 240))) else (blotterref01_read.j2 k x0 x4 x5 x6 false))
def blotterref01_read.j2 : Nat → ByteArray → List Int → Int → Int → Bool → Option (List Int × Bool)
 | 0, _, _, _, _, _ => none
 | k + 1, x0, x4, x5, x6, x31 => if x31 = true then (blotterref01_read.j4 k x0 x4 x5 (wrap64 (x6 - 224)) 2 2048) else (if x6 ≥ 240 then (blotterref01_read.j3 k x0 x4 x5 x6 (decide (x6 < 248))) else (blotterref01_read.j3 k x0 x4 x5 x6 false))
def blotterref01_read.j3 : Nat → ByteArray → List Int → Int → Int → Bool → Option (List Int × Bool)
 | 0, _, _, _, _, _ => none
 | k + 1, x0, x4, x5, x6, x40 => if x40 = true then (blotterref01_read.j4 k x0 x4 x5 (wrap64 (x6 - 240)) 3 65536) else (some (([] : List Int), false))
end
def blotterref01_read.f (k : Nat) (a0 : ByteArray) : Option (List Int × Bool) := blotterref01_read.l0 k a0 ([] : List Int) 0
theorem blotterref01_read.mono_l : ∀ k, (∀ y0 y1 y2, LeO (blotterref01_read.l0 k y0 y1 y2) (blotterref01_read.l0 (k + 1) y0 y1 y2)) ∧ (∀ y0 y1 y2 y3 y4 y5, LeO (blotterref01_read.j4 k y0 y1 y2 y3 y4 y5) (blotterref01_read.j4 (k + 1) y0 y1 y2 y3 y4 y5)) ∧ (∀ y0 y1 y2 y3 y4 y5 y6, LeO (blotterref01_read.l1 k y0 y1 y2 y3 y4 y5 y6) (blotterref01_read.l1 (k + 1) y0 y1 y2 y3 y4 y5 y6)) ∧ (∀ y0 y1 y2 y3 y4 y5 y6 y7 y8, LeO (blotterref01_read.j6 k y0 y1 y2 y3 y4 y5 y6 y7 y8) (blotterref01_read.j6 (k + 1) y0 y1 y2 y3 y4 y5 y6 y7 y8)) ∧ (∀ y0 y1 y2 y3 y4 y5, LeO (blotterref01_read.j7 k y0 y1 y2 y3 y4 y5) (blotterref01_read.j7 (k + 1) y0 y1 y2 y3 y4 y5)) ∧ (∀ y0 y1 y2 y3 y4, LeO (blotterref01_read.j1 k y0 y1 y2 y3 y4) (blotterref01_read.j1 (k + 1) y0 y1 y2 y3 y4)) ∧ (∀ y0 y1 y2 y3 y4, LeO (blotterref01_read.j2 k y0 y1 y2 y3 y4) (blotterref01_read.j2 (k + 1) y0 y1 y2 y3 y4)) ∧ (∀ y0 y1 y2 y3 y4, LeO (blotterref01_read.j3 k y0 y1 y2 y3 y4) (blotterref01_read.j3 (k + 1) y0 y1 y2 y3 y4))
 | 0 => ⟨fun _ _ _ r h => by simp [blotterref01_read.l0] at h, fun _ _ _ _ _ _ r h => by simp [blotterref01_read.j4] at h, fun _ _ _ _ _ _ _ r h => by simp [blotterref01_read.l1] at h, fun _ _ _ _ _ _ _ _ _ r h => by simp [blotterref01_read.j6] at h, fun _ _ _ _ _ _ r h => by simp [blotterref01_read.j7] at h, fun _ _ _ _ _ r h => by simp [blotterref01_read.j1] at h, fun _ _ _ _ _ r h => by simp [blotterref01_read.j2] at h, fun _ _ _ _ _ r h => by simp [blotterref01_read.j3] at h⟩
 | k + 1 => by
  obtain ⟨ih0, ih1, ih2, ih3, ih4, ih5, ih6, ih7⟩ := blotterref01_read.mono_l k
  refine ⟨?_, ?_, ?_, ?_, ?_, ?_, ?_, ?_⟩
  ·intro y0 y1 y2
   unfold blotterref01_read.l0
   exact lo
  ·intro y0 y1 y2 y3 y4 y5
   unfold blotterref01_read.j4
   exact lo
  ·intro y0 y1 y2 y3 y4 y5 y6
   unfold blotterref01_read.l1
   exact lo
  ·intro y0 y1 y2 y3 y4 y5 y6 y7 y8
   unfold blotterref01_read.j6
   exact lo
  ·intro y0 y1 y2 y3 y4 y5
   unfold blotterref01_read.j7
   exact lo
  ·intro y0 y1 y2 y3 y4
   unfold blotterref01_read.j1
   exact lo
  ·intro y0 y1 y2 y3 y4
   unfold blotterref01_read.j2
   exact lo
  intro y0 y1 y2 y3 y4
  unfold blotterref01_read.j3
  exact lo
theorem blotterref01_read.mono : ∀ a0 k, LeO (blotterref01_read.f k a0) (blotterref01_read.f (k + 1) a0) := by
 intro a0 k
 obtain ⟨ih0, ih1, ih2, ih3, ih4, ih5, ih6, ih7⟩ := blotterref01_read.mono_l k
 unfold blotterref01_read.f
 exact lo
set_option maxHeartbeats 8000000 in
set_option maxRecDepth 100000 in
theorem blotterref01_read.calls (k : Nat) (a0 : ByteArray) (r1 : List Int) (r2 : Bool) (w : World) (h : blotterref01_read.f k a0 = some (r1, r2)) :
 Calls Tryd.prog 81 #[.string a0] w fun e w' => ∃ v0_ : Value, e = .returned (.tuple #[v0_, .bool r2]) ∧ Kd.R (Kd.int .i64) 3 w' w.heap.size (fun _ => True) v0_ r1 ∧ Below w.heap.size w w' := by
 have HB := am (Below.refl w.heap.size w)
 have H : (blotterref01_read.l0 k a0 ([] : List Int) 0) = some (r1, r2) := h
 clear h
 have H' := am H
 clear H
 go_enter Tryd.func81, Tryd.ntmps81
 go_wp2
 go_loopg [4, 5] k (fun kq v4 v5 w' => ∃ (x4_1 : List Int) (x5_1 : Int), v5 = .int .i64 x5_1 ∧ Aside0 (blotterref01_read.l0 kq a0 x4_1 x5_1 = some (r1, r2)) ∧ Aside0 (kq ≤ k) ∧ Aside0 (Kd.R (Kd.int .i64) 3 w' w.heap.size (fun _ => True) v4 x4_1) ∧ Aside0 (Below w.heap.size w w'))
 case atStart => exact ⟨(([] : List Int)), (0), (rs), H', ⟨Nat.le_refl _⟩, ⟨by first | exact Kd.R_nil _ _ _ _ _ | exact Kd.N_nil _ _ _ _ _ | exact Kd.V_nil _ _ _ _ _ | exact Kd.Q_nil _ _ _ _ _ | exact Kd.S_nil _ _ _ _ _⟩, ⟨bl HB.out⟩⟩
 case round =>
  clear H'
  obtain ⟨x4_1, x5_1, rfl, HA, HK1, HO_4, HB⟩ := hrel
  cases gk with
  | zero => exact absurd HA.out (by simp [blotterref01_read.l0])
  | succ k1 =>
   have H := HA.out
   clear HA
   simp only [blotterref01_read.l0] at H
   by_cases c2 : x5_1 < (a0.size : Int)
   ·rw [if_pos c2] at H
    have c2b0 : decide (x5_1 < (a0.size : Int)) = true := decide_eq_true c2
    clear c2
    by_cases c3 : 0 ≤ x5_1
    ·rw [if_pos c3] at H
     have c3b0 : decide (0 ≤ x5_1) = true := decide_eq_true c3
     clear c3
     have HC5 := am H
     clear H
     have p4 : 0 ≤ (x5_1 : Int) := oda
     have q4 : x5_1 < (a0.size : Int) := oda
     have hx4 := bt_at a0 x5_1
     replace p4 := eq_true p4
     replace q4 := eq_true q4
     go_upto_block 2 with (fail)
     go_cut [6, 7, 8] (fun v6 v7 v8 wc => ∃ (kq : Nat) (x6_4 : Int) (x7_4 : Int) (x8_4 : Int), v6 = .int .i64 x6_4 ∧ v7 = .int .i64 x7_4 ∧ v8 = .int .i64 x8_4 ∧ Aside0 (blotterref01_read.j4 kq a0 x4_1 x5_1 x6_4 x7_4 x8_4 = some (r1, r2)) ∧ Aside0 (kq ≤ k1) ∧ Aside0 (Kd.R (Kd.int .i64) 3 wc w.heap.size (fun _ => True) u4 x4_1) ∧ Aside0 (Below w.heap.size w wc))
     case first =>
      have H := HC5.out
      clear HC5
      by_cases c6 : (wrap64 (bt a0 x5_1)) < 128
      ·rw [if_pos c6] at H
       have c6b0 : decide ((wrap64 (bt a0 x5_1)) < 128) = true := decide_eq_true c6
       clear c6
       (first | rw [c6b0] | (simp only [i64_w, i32_w]; rw [c6b0]) | skip)
       have H' := am H
       clear H
       go_wp2
       go_meet
       case rel => exact ⟨_, (wrap64 (bt a0 x5_1)), (0), (0), (rs), (rs), (rs), H', ⟨by have := HK1.out; first | omega | exact Nat.le_refl _⟩, ⟨ks HO_4.out⟩, ⟨bl HB.out⟩⟩
      rw [if_neg c6] at H
      have c6b0 : decide ((wrap64 (bt a0 x5_1)) < 128) = false := decide_eq_false c6
      clear c6
      (first | rw [c6b0] | (simp only [i64_w, i32_w]; rw [c6b0]) | skip)
      have HC7 := am H
      clear H
      go_upto_region 9 with (fail)
      go_cut [22] (fun v22 wc => ∃ (kq : Nat) (x22_6 : Bool), v22 = .bool x22_6 ∧ Aside0 (blotterref01_read.j1 kq a0 x4_1 x5_1 (wrap64 (bt a0 x5_1)) x22_6 = some (r1, r2)) ∧ Aside0 (kq ≤ k1) ∧ Aside0 (Kd.R (Kd.int .i64) 3 wc w.heap.size (fun _ => True) u4 x4_1) ∧ Aside0 (Below w.heap.size w wc))
      case first =>
       have H := HC7.out
       clear HC7
       by_cases c8 : (wrap64 (bt a0 x5_1)) ≥ 192
       ·rw [if_pos c8] at H
        have c8b0 : decide (192 ≤ (wrap64 (bt a0 x5_1))) = true := decide_eq_true c8
        clear c8
        (first | rw [c8b0] | (simp only [i64_w, i32_w]; rw [c8b0]) | skip)
        have H' := am H
        clear H
        go_wp2
        go_meet
        case rel => exact ⟨_, (decide ((wrap64 (bt a0 x5_1)) < 224)), (rs), H', ⟨by have := HK1.out; first | omega | exact Nat.le_refl _⟩, ⟨ks HO_4.out⟩, ⟨bl HB.out⟩⟩
       rw [if_neg c8] at H
       have c8b0 : decide (192 ≤ (wrap64 (bt a0 x5_1))) = false := decide_eq_false c8
       clear c8
       (first | rw [c8b0] | (simp only [i64_w, i32_w]; rw [c8b0]) | skip)
       have H' := am H
       clear H
       go_wp2
       go_meet
       case rel => exact ⟨_, (false), (rs), H', ⟨by have := HK1.out; first | omega | exact Nat.le_refl _⟩, ⟨ks HO_4.out⟩, ⟨bl HB.out⟩⟩
      case rest =>
       clear HC7
       try clear c2; try clear c2b0; try clear p2; try clear c3; try clear c3b0; try clear p4; try clear q4; try clear hx4; try clear c6; try clear c6b0; try clear p6; try clear c8; try clear c8b0; try clear p4; try clear q4
       obtain ⟨kq, x22_6, rfl, HA, HJ6, HO_4, HB⟩ := hcut
       cases kq with
       | zero => exact absurd HA.out (by simp [blotterref01_read.j1])
       | succ kj6 =>
        have H := HA.out
        clear HA
        simp only [blotterref01_read.j1] at H
        by_cases c9 : x22_6 = true
        ·subst c9
         have H1 : (blotterref01_read.j4 kj6 a0 x4_1 x5_1 (wrap64 ((wrap64 (bt a0 x5_1)) - 192)) 1 128) = some (r1, r2) := by rw [if_pos rfl] at H; exact H
         clear H
         have H := H1
         clear H1
         have H' := am H
         clear H
         go_wp2
         go_meet
         case rel => exact ⟨_, (wrap64 ((wrap64 (bt a0 x5_1)) - 192)), (1), (128), (rs), (rs), (rs), H', ⟨by have := HK1.out; have := HJ6.out; first | omega | exact Nat.le_refl _⟩, ⟨ks HO_4.out⟩, ⟨bl HB.out⟩⟩
        replace c9 := Bool.eq_false_iff.mpr c9
        subst c9
        have H1 : (if (wrap64 (bt a0 x5_1)) ≥ 224 then (blotterref01_read.j2 kj6 a0 x4_1 x5_1 (wrap64 (bt a0 x5_1)) (decide ((wrap64 (bt a0 x5_1)) < 240))) else (blotterref01_read.j2 kj6 a0 x4_1 x5_1 (wrap64 (bt a0 x5_1)) false)) = some (r1, r2) := by rw [if_neg (show ¬ (false = true) by decide)] at H; exact H
        clear H
        have H := H1
        clear H1
        have HC10 := am H
        clear H
        go_upto_region 13 with (fail)
        go_cut [31] (fun v31 wc => ∃ (kq : Nat) (x31_9 : Bool), v31 = .bool x31_9 ∧ Aside0 (blotterref01_read.j2 kq a0 x4_1 x5_1 (wrap64 (bt a0 x5_1)) x31_9 = some (r1, r2)) ∧ Aside0 (kq ≤ kj6) ∧ Aside0 (Kd.R (Kd.int .i64) 3 wc w.heap.size (fun _ => True) u4 x4_1) ∧ Aside0 (Below w.heap.size w wc))
        case first =>
         have H := HC10.out
         clear HC10
         by_cases c11 : (wrap64 (bt a0 x5_1)) ≥ 224
         ·rw [if_pos c11] at H
          have c11b0 : decide (224 ≤ (wrap64 (bt a0 x5_1))) = true := decide_eq_true c11
          clear c11
          (first | rw [c11b0] | (simp only [i64_w, i32_w]; rw [c11b0]) | skip)
          have H' := am H
          clear H
          go_wp2
          go_meet
          case rel => exact ⟨_, (decide ((wrap64 (bt a0 x5_1)) < 240)), (rs), H', ⟨by have := HK1.out; have := HJ6.out; first | omega | exact Nat.le_refl _⟩, ⟨ks HO_4.out⟩, ⟨bl HB.out⟩⟩
         rw [if_neg c11] at H
         have c11b0 : decide (224 ≤ (wrap64 (bt a0 x5_1))) = false := decide_eq_false c11
         clear c11
         (first | rw [c11b0] | (simp only [i64_w, i32_w]; rw [c11b0]) | skip)
         have H' := am H
         clear H
         go_wp2
         go_meet
         case rel => exact ⟨_, (false), (rs), H', ⟨by have := HK1.out; have := HJ6.out; first | omega | exact Nat.le_refl _⟩, ⟨ks HO_4.out⟩, ⟨bl HB.out⟩⟩
        case rest =>
         clear HC10
         try clear c1; try clear c2; try clear c2b0; try clear p2; try clear c3; try clear c3b0; try clear p4; try clear q4; try clear hx4; try clear c6; try clear c6b0; try clear p6; try clear c8; try clear c8b0; try clear c9; try clear c11; try clear c11b0; try clear p2; try clear p4; try clear p6; try clear q4
         obtain ⟨kq, x31_9, rfl, HA, HJ9, HO_4, HB⟩ := hcut
         cases kq with
         | zero => exact absurd HA.out (by simp [blotterref01_read.j2])
         | succ kj9 =>
          have H := HA.out
          clear HA
          simp only [blotterref01_read.j2] at H
          by_cases c12 : x31_9 = true
          ·subst c12
           have H1 : (blotterref01_read.j4 kj9 a0 x4_1 x5_1 (wrap64 ((wrap64 (bt a0 x5_1)) - 224)) 2 2048) = some (r1, r2) := by rw [if_pos rfl] at H; exact H
           clear H
           have H := H1
           clear H1
           have H' := am H
           clear H
           go_wp2
           go_meet
           case rel => exact ⟨_, (wrap64 ((wrap64 (bt a0 x5_1)) - 224)), (2), (2048), (rs), (rs), (rs), H', ⟨by have := HK1.out; have := HJ6.out; have := HJ9.out; first | omega | exact Nat.le_refl _⟩, ⟨ks HO_4.out⟩, ⟨bl HB.out⟩⟩
          replace c12 := Bool.eq_false_iff.mpr c12
          subst c12
          have H1 : (if (wrap64 (bt a0 x5_1)) ≥ 240 then (blotterref01_read.j3 kj9 a0 x4_1 x5_1 (wrap64 (bt a0 x5_1)) (decide ((wrap64 (bt a0 x5_1)) < 248))) else (blotterref01_read.j3 kj9 a0 x4_1 x5_1 (wrap64 (bt a0 x5_1)) false)) = some (r1, r2) := by rw [if_neg (show ¬ (false = true) by decide)] at H; exact H
          clear H
          have H := H1
          clear H1
          have HC13 := am H
          clear H
          go_upto_region 17 with (fail)
          go_cut [40] (fun v40 wc => ∃ (kq : Nat) (x40_12 : Bool), v40 = .bool x40_12 ∧ Aside0 (blotterref01_read.j3 kq a0 x4_1 x5_1 (wrap64 (bt a0 x5_1)) x40_12 = some (r1, r2)) ∧ Aside0 (kq ≤ kj9) ∧ Aside0 (Kd.R (Kd.int .i64) 3 wc w.heap.size (fun _ => True) u4 x4_1) ∧ Aside0 (Below w.heap.size w wc))
          case first =>
           have H := HC13.out
           clear HC13
           by_cases c14 : (wrap64 (bt a0 x5_1)) ≥ 240
           ·rw [if_pos c14] at H
            have c14b0 : decide (240 ≤ (wrap64 (bt a0 x5_1))) = true := decide_eq_true c14
            clear c14
            (first | rw [c14b0] | (simp only [i64_w, i32_w]; rw [c14b0]) | skip)
            have H' := am H
            clear H
            go_wp2
            go_meet
            case rel => exact ⟨_, (decide ((wrap64 (bt a0 x5_1)) < 248)), (rs), H', ⟨by have := HK1.out; have := HJ6.out; have := HJ9.out; first | omega | exact Nat.le_refl _⟩, ⟨ks HO_4.out⟩, ⟨bl HB.out⟩⟩
           rw [if_neg c14] at H
           have c14b0 : decide (240 ≤ (wrap64 (bt a0 x5_1))) = false := decide_eq_false c14
           clear c14
           (first | rw [c14b0] | (simp only [i64_w, i32_w]; rw [c14b0]) | skip)
           have H' := am H
           clear H
           go_wp2
           go_meet
           case rel => exact ⟨_, (false), (rs), H', ⟨by have := HK1.out; have := HJ6.out; have := HJ9.out; first | omega | exact Nat.le_refl _⟩, ⟨ks HO_4.out⟩, ⟨bl HB.out⟩⟩
          case rest =>
           clear HC13
           try clear c1; try clear c2; try clear c2b0; try clear p2; try clear c3; try clear c3b0; try clear p4; try clear q4; try clear hx4; try clear c6; try clear c6b0; try clear p6; try clear c8; try clear c8b0; try clear c9; try clear c11; try clear c11b0; try clear c12; try clear c14; try clear c14b0; try clear p2; try clear p4; try clear p6; try clear q4
           obtain ⟨kq, x40_12, rfl, HA, HJ12, HO_4, HB⟩ := hcut
           cases kq with
           | zero => exact absurd HA.out (by simp [blotterref01_read.j3])
           | succ kj12 =>
            have H := HA.out
            clear HA
            simp only [blotterref01_read.j3] at H
            by_cases c15 : x40_12 = true
            ·subst c15
             have H1 : (blotterref01_read.j4 kj12 a0 x4_1 x5_1 (wrap64 ((wrap64 (bt a0 x5_1)) - 240)) 3 65536) = some (r1, r2) := by rw [if_pos rfl] at H; exact H
             clear H
             have H := H1
             clear H1
             have H' := am H
             clear H
             go_wp2
             go_meet
             case rel => exact ⟨_, (wrap64 ((wrap64 (bt a0 x5_1)) - 240)), (3), (65536), (rs), (rs), (rs), H', ⟨by have := HK1.out; have := HJ6.out; have := HJ9.out; have := HJ12.out; first | omega | exact Nat.le_refl _⟩, ⟨ks HO_4.out⟩, ⟨bl HB.out⟩⟩
            replace c15 := Bool.eq_false_iff.mpr c15
            subst c15
            have H1 : (some (([] : List Int), false)) = some (r1, r2) := by rw [if_neg (show ¬ (false = true) by decide)] at H; exact H
            clear H
            have H := H1
            clear H1
            simp only [Option.some.injEq, Prod.mk.injEq] at H
            obtain ⟨rfl, rfl⟩ := H
            go_wp2
            go_ret2
            exact ⟨_, re, by first | exact Kd.R_nil _ _ _ _ _ | exact Kd.N_nil _ _ _ _ _ | exact Kd.V_nil _ _ _ _ _ | exact Kd.Q_nil _ _ _ _ _ | exact Kd.S_nil _ _ _ _ _, bl HB.out⟩
     case rest =>
      clear HC5
      try clear c1; try clear c2; try clear c2b0; try clear p2; try clear c3; try clear c3b0; try clear p4; try clear q4; try clear hx4; try clear c6; try clear c6b0; try clear p6; try clear c8; try clear c8b0; try clear c9; try clear c11; try clear c11b0; try clear c12; try clear c14; try clear c14b0; try clear c15; try clear p2; try clear p4; try clear p6; try clear q4
      obtain ⟨kq, x6_4, x7_4, x8_4, rfl, rfl, rfl, HA, HJ4, HO_4, HB⟩ := hcut
      cases kq with
      | zero => exact absurd HA.out (by simp [blotterref01_read.j4])
      | succ kj4 =>
       have H := HA.out
       clear HA
       simp only [blotterref01_read.j4] at H
       by_cases c16 : (wrap64 (x5_1 + x7_4)) ≥ (a0.size : Int)
       ·rw [if_pos c16] at H
        have c16b0 : decide ((a0.size : Int) ≤ (wrap64 (x5_1 + x7_4))) = true := decide_eq_true c16
        clear c16
        simp only [Option.some.injEq, Prod.mk.injEq] at H
        obtain ⟨rfl, rfl⟩ := H
        go_wp2
        go_ret2
        exact ⟨_, re, by first | exact Kd.R_nil _ _ _ _ _ | exact Kd.N_nil _ _ _ _ _ | exact Kd.V_nil _ _ _ _ _ | exact Kd.Q_nil _ _ _ _ _ | exact Kd.S_nil _ _ _ _ _, bl HB.out⟩
       rw [if_neg c16] at H
       have c16b0 : decide ((a0.size : Int) ≤ (wrap64 (x5_1 + x7_4))) = false := decide_eq_false c16
       clear c16
       have H' := am H
       clear H
       go_wp2
       go_loopg [6, 9] kj4 (fun kq v6 v9 w' => ∃ (x6_3 : Int) (x9_3 : Int), v6 = .int .i64 x6_3 ∧ v9 = .int .i64 x9_3 ∧ Aside0 (blotterref01_read.l1 kq a0 x4_1 x5_1 x6_3 x7_4 x8_4 x9_3 = some (r1, r2)) ∧ Aside0 (kq ≤ kj4) ∧ Aside0 (Kd.R (Kd.int .i64) 3 w' w.heap.size (fun _ => True) u4 x4_1) ∧ Aside0 (Below w.heap.size w w'))
       case atStart => exact ⟨(x6_4), (1), (rs), (rs), H', ⟨Nat.le_refl _⟩, ⟨ks HO_4.out⟩, ⟨bl HB.out⟩⟩
       case round =>
        clear H'
        try clear c1; try clear c2; try clear c2b0; try clear p2; try clear c3; try clear c3b0; try clear p4; try clear q4; try clear hx4; try clear c6; try clear c6b0; try clear p6; try clear c8; try clear c8b0; try clear c9; try clear c11; try clear c11b0; try clear c12; try clear c14; try clear c14b0; try clear c15; try clear c16; try clear c16b0; try clear p2; try clear p4; try clear p6; try clear q4
        obtain ⟨x6_3, x9_3, rfl, rfl, HA, HK3, HO_4, HB⟩ := hrel
        cases gk with
        | zero => exact absurd HA.out (by simp [blotterref01_read.l1])
        | succ k3 =>
         have H := HA.out
         clear HA
         simp only [blotterref01_read.l1] at H
         by_cases c17 : x9_3 ≤ x7_4
         ·rw [if_pos c17] at H
          have c17b0 : decide (x9_3 ≤ x7_4) = true := decide_eq_true c17
          clear c17
          obtain ⟨ji18, hji18⟩ : ∃ j_ : Int, (wrap64 (x5_1 + x9_3)) = j_ := ⟨_, rfl⟩
          replace H : (if 0 ≤ (ji18) then (if (ji18) < (a0.size : Int) then (if (wrap64 (bt a0 (ji18))) < 128 then (blotterref01_read.j6 k3 a0 x4_1 x5_1 x6_3 x7_4 x8_4 x9_3 (wrap64 (bt a0 (ji18))) true) else (blotterref01_read.j6 k3 a0 x4_1 x5_1 x6_3 x7_4 x8_4 x9_3 (wrap64 (bt a0 (ji18))) (decide ((wrap64 (bt a0 (ji18))) > 191)))) else (none)) else (none)) = some (r1, r2) := by first | (rw [hji18] at H; exact H) | (simp only [hji18] at H ⊢; exact H)
          have hji18w : (IntKind.i64.wrap (x5_1 + x9_3)) = ji18 := (i64_w _).trans hji18
          by_cases c19 : 0 ≤ (ji18)
          ·rw [if_pos c19] at H
           have c19b0 : decide (0 ≤ (ji18)) = true := decide_eq_true c19
           clear c19
           by_cases c20 : (ji18) < (a0.size : Int)
           ·rw [if_pos c20] at H
            have c20b0 : decide ((ji18) < (a0.size : Int)) = true := decide_eq_true c20
            clear c20
            have HC22 := am H
            clear H
            have p21 : 0 ≤ ((ji18) : Int) := oda
            have q21 : (ji18) < (a0.size : Int) := oda
            have hx21 := bt_at a0 (ji18)
            replace p21 := eq_true p21
            replace q21 := eq_true q21
            go_upto_region 27 with (fail)
            go_cut [71] (fun v71 wc => ∃ (kq : Nat) (x71_21 : Bool), v71 = .bool x71_21 ∧ Aside0 (blotterref01_read.j6 kq a0 x4_1 x5_1 x6_3 x7_4 x8_4 x9_3 (wrap64 (bt a0 (ji18))) x71_21 = some (r1, r2)) ∧ Aside0 (kq ≤ k3) ∧ Aside0 (Kd.R (Kd.int .i64) 3 wc w.heap.size (fun _ => True) u4 x4_1) ∧ Aside0 (Below w.heap.size w wc))
            case first =>
             have H := HC22.out
             clear HC22
             by_cases c23 : (wrap64 (bt a0 (ji18))) < 128
             ·rw [if_pos c23] at H
              have c23b0 : decide ((wrap64 (bt a0 (ji18))) < 128) = true := decide_eq_true c23
              clear c23
              (first | rw [c23b0] | (simp only [i64_w, i32_w]; rw [c23b0]) | skip)
              have H' := am H
              clear H
              go_wp2
              go_meet
              case rel => exact ⟨_, (true), (rs), H', ⟨by have := HK1.out; have := HJ4.out; have := HK3.out; first | omega | exact Nat.le_refl _⟩, ⟨ks HO_4.out⟩, ⟨bl HB.out⟩⟩
             rw [if_neg c23] at H
             have c23b0 : decide ((wrap64 (bt a0 (ji18))) < 128) = false := decide_eq_false c23
             clear c23
             (first | rw [c23b0] | (simp only [i64_w, i32_w]; rw [c23b0]) | skip)
             have H' := am H
             clear H
             go_wp2
             go_meet
             case rel => exact ⟨_, (decide ((wrap64 (bt a0 (ji18))) > 191)), (by first | rfl | (simp; done) | (simp only [← hji18] <;> (first | rfl | simp)) | (simp [*]; done)), H', ⟨by have := HK1.out; have := HJ4.out; have := HK3.out; first | omega | exact Nat.le_refl _⟩, ⟨ks HO_4.out⟩, ⟨bl HB.out⟩⟩
            case rest =>
             clear HC22
             try clear c1; try clear c2; try clear c2b0; try clear p2; try clear q2; try clear hx2; try clear c3; try clear c3b0; try clear p4; try clear q4; try clear hx4; try clear c6; try clear c6b0; try clear p6; try clear c8; try clear c8b0; try clear c9; try clear c11; try clear c11b0; try clear c12; try clear c14; try clear c14b0; try clear c15; try clear c16; try clear c16b0; try clear c17; try clear c17b0; try clear c19; try clear c19b0; try clear c20; try clear c20b0; try clear p21; try clear q21; try clear hx21; try clear c23; try clear c23b0; try clear p2; try clear p21; try clear p4; try clear p6; try clear q21; try clear q4
             obtain ⟨kq, x71_21, rfl, HA, HJ21, HO_4, HB⟩ := hcut
             cases kq with
             | zero => exact absurd HA.out (by simp [blotterref01_read.j6])
             | succ kj21 =>
              have H := HA.out
              clear HA
              simp only [blotterref01_read.j6] at H
              by_cases c24 : x71_21 = true
              ·subst c24
               have H1 : (some (([] : List Int), false)) = some (r1, r2) := by rw [if_pos rfl] at H; exact H
               clear H
               have H := H1
               clear H1
               simp only [Option.some.injEq, Prod.mk.injEq] at H
               obtain ⟨rfl, rfl⟩ := H
               go_wp2
               go_ret2
               exact ⟨_, by first | rfl | (simp [ne_nil_b, eq_nil_b]; done) | (simp [errW_none, errW_some] <;> rfl) | (simp only [← hji18]; first | rfl | (simp [errW_none, errW_some] <;> rfl)) | (simp [*, errW_none, errW_some] <;> rfl), by first | exact Kd.R_nil _ _ _ _ _ | exact Kd.N_nil _ _ _ _ _ | exact Kd.V_nil _ _ _ _ _ | exact Kd.Q_nil _ _ _ _ _ | exact Kd.S_nil _ _ _ _ _, bl HB.out⟩
              replace c24 := Bool.eq_false_iff.mpr c24
              subst c24
              have H1 : (blotterref01_read.l1 kj21 a0 x4_1 x5_1 (wrap64 ((wrap64 ((wrap64 (x6_3 * 64)) + (wrap64 (bt a0 (ji18))))) - 128)) x7_4 x8_4 (wrap64 (x9_3 + 1))) = some (r1, r2) := by rw [if_neg (show ¬ (false = true) by decide)] at H; exact H
              clear H
              have H := H1
              clear H1
              have H' := am H
              clear H
              go_wp2
              go_roundg kj21
              case measure => have := HK1.out; have := HJ4.out; have := HK3.out; have := HJ21.out; omega
              case rel => exact ⟨(wrap64 ((wrap64 ((wrap64 (x6_3 * 64)) + (wrap64 (bt a0 (ji18))))) - 128)), (wrap64 (x9_3 + 1)), (by first | rfl | (simp; done) | (simp only [← hji18] <;> (first | rfl | simp)) | (simp [*]; done)), (rs), H', ⟨by have := HK1.out; have := HJ4.out; have := HK3.out; have := HJ21.out; omega⟩, ⟨ks HO_4.out⟩, ⟨bl HB.out⟩⟩
           rw [if_neg c20] at H
           exact absurd H (by simp)
          rw [if_neg c19] at H
          exact absurd H (by simp)
         rw [if_neg c17] at H
         have c17b0 : decide (x9_3 ≤ x7_4) = false := decide_eq_false c17
         clear c17
         have HC25 := am H
         clear H
         go_upto_region 30 with (fail)
         go_cut [91] (fun v91 wc => ∃ (kq : Nat) (x91_24 : Bool), v91 = .bool x91_24 ∧ Aside0 (blotterref01_read.j7 kq a0 x4_1 x5_1 x6_3 x7_4 x91_24 = some (r1, r2)) ∧ Aside0 (kq ≤ k3) ∧ Aside0 (Kd.R (Kd.int .i64) 3 wc w.heap.size (fun _ => True) u4 x4_1) ∧ Aside0 (Below w.heap.size w wc))
         case first =>
          have H := HC25.out
          clear HC25
          by_cases c26 : x6_3 < x8_4
          ·rw [if_pos c26] at H
           have c26b0 : decide (x6_3 < x8_4) = true := decide_eq_true c26
           clear c26
           (first | rw [c26b0] | (simp only [i64_w, i32_w]; rw [c26b0]) | skip)
           have H' := am H
           clear H
           go_wp2
           go_meet
           case rel => exact ⟨_, (true), (rs), H', ⟨by have := HK1.out; have := HJ4.out; have := HK3.out; first | omega | exact Nat.le_refl _⟩, ⟨ks HO_4.out⟩, ⟨bl HB.out⟩⟩
          rw [if_neg c26] at H
          have c26b0 : decide (x6_3 < x8_4) = false := decide_eq_false c26
          clear c26
          (first | rw [c26b0] | (simp only [i64_w, i32_w]; rw [c26b0]) | skip)
          by_cases c27 : x6_3 ≥ 55296
          ·rw [if_pos c27] at H
           have c27b0 : decide (55296 ≤ x6_3) = true := decide_eq_true c27
           clear c27
           by_cases c28 : x6_3 ≤ 57343
           ·rw [if_pos c28] at H
            have c28b0 : decide (x6_3 ≤ 57343) = true := decide_eq_true c28
            clear c28
            have H' := am H
            clear H
            go_wp2
            go_meet
            case rel => exact ⟨_, (true), (rs), H', ⟨by have := HK1.out; have := HJ4.out; have := HK3.out; first | omega | exact Nat.le_refl _⟩, ⟨ks HO_4.out⟩, ⟨bl HB.out⟩⟩
           rw [if_neg c28] at H
           have c28b0 : decide (x6_3 ≤ 57343) = false := decide_eq_false c28
           clear c28
           have H' := am H
           clear H
           go_wp2
           go_meet
           case rel => exact ⟨_, (decide (x6_3 > 1114111)), (rs), H', ⟨by have := HK1.out; have := HJ4.out; have := HK3.out; first | omega | exact Nat.le_refl _⟩, ⟨ks HO_4.out⟩, ⟨bl HB.out⟩⟩
          rw [if_neg c27] at H
          have c27b0 : decide (55296 ≤ x6_3) = false := decide_eq_false c27
          clear c27
          have H' := am H
          clear H
          go_wp2
          go_meet
          case rel => exact ⟨_, (decide (x6_3 > 1114111)), (rs), H', ⟨by have := HK1.out; have := HJ4.out; have := HK3.out; first | omega | exact Nat.le_refl _⟩, ⟨ks HO_4.out⟩, ⟨bl HB.out⟩⟩
         case rest =>
          clear HC25
          try clear c1; try clear c2; try clear c2b0; try clear p2; try clear q2; try clear hx2; try clear c3; try clear c3b0; try clear p4; try clear q4; try clear hx4; try clear c6; try clear c6b0; try clear p6; try clear c8; try clear c8b0; try clear c9; try clear c11; try clear c11b0; try clear c12; try clear c14; try clear c14b0; try clear c15; try clear c16; try clear c16b0; try clear c17; try clear c17b0; try clear c19; try clear c19b0; try clear c20; try clear c20b0; try clear p21; try clear q21; try clear hx21; try clear c23; try clear c23b0; try clear c24; try clear c26; try clear c26b0; try clear c27; try clear c27b0; try clear c28; try clear c28b0; try clear p2; try clear p21; try clear p4; try clear p6; try clear q2; try clear q21; try clear q4
          obtain ⟨kq, x91_24, rfl, HA, HJ24, HO_4, HB⟩ := hcut
          cases kq with
          | zero => exact absurd HA.out (by simp [blotterref01_read.j7])
          | succ kj24 =>
           have H := HA.out
           clear HA
           simp only [blotterref01_read.j7] at H
           by_cases c29 : x91_24 = true
           ·subst c29
            have H1 : (some (([] : List Int), false)) = some (r1, r2) := by rw [if_pos rfl] at H; exact H
            clear H
            have H := H1
            clear H1
            simp only [Option.some.injEq, Prod.mk.injEq] at H
            obtain ⟨rfl, rfl⟩ := H
            go_wp2
            go_ret2
            exact ⟨_, re, by first | exact Kd.R_nil _ _ _ _ _ | exact Kd.N_nil _ _ _ _ _ | exact Kd.V_nil _ _ _ _ _ | exact Kd.Q_nil _ _ _ _ _ | exact Kd.S_nil _ _ _ _ _, bl HB.out⟩
           replace c29 := Bool.eq_false_iff.mpr c29
           subst c29
           have H1 : (if x4_1.length < 17592186044416 then (blotterref01_read.l0 kj24 a0 (x4_1 ++ [x6_3]) (wrap64 ((wrap64 (x5_1 + x7_4)) + 1))) else (none)) = some (r1, r2) := by rw [if_neg (show ¬ (false = true) by decide)] at H; exact H
           clear H
           have H := H1
           clear H1
           by_cases c30 : x4_1.length < 17592186044416
           ·rw [if_pos c30] at H
            have LMc30 := am c30
            clear c30
            obtain ⟨y503, hy503⟩ : ∃ y_ : List Int, y_ = (x4_1 ++ [x6_3]) := ⟨_, rfl⟩
            replace H : (blotterref01_read.l0 kj24 a0 y503 (wrap64 ((wrap64 (x5_1 + x7_4)) + 1))) = some (r1, r2) := by first | (rw [hy503]; with_reducible exact H) | (have H2_ := (Option.bind_some _ _).symm.trans H; rw [hy503]; with_reducible exact H2_) | (have H2_ := (Option.bind_some _ _).symm.trans H; with_reducible exact H2_) | with_reducible exact H | (rw [hy503]; exact H) | exact H
            have Ny503 := am hy503
            clear hy503
            have H' := am H
            clear H
            go_wp2_with (first | ((with_reducible refine gate_builtin (b := .append) (xs := #[.tmp 92, .tmp 94]) rfl ?_); at_builtin; refine Kd.R_append (Kd.int .i64) (w0 := w) w.heap.size rfl (.tmp 92) (.tmp 94) 44 3 (.int .i64 0) 8 rfl Tryd.underlying44 info3 rfl (by decide) (by omega) u4 x4_1 x6_3 [.int .i64 x6_3] (fun _ => True) (fun _ => False) rfl rfl ?aP (fun _ hk => hk.elim) ?aF ?aO ?aB ?aS ?aL ?_; (case aP => exact rfl); (case aB => exact (bl HB.out)); (case aF => exact (fun _ _ => trivial)); (case aO => exact (ks HO_4.out)); (case aS => exact (below_size (bl HB.out))); (case aL => have := LMc30.out; omega); intro v504 w31 ho hb hg hat; rw [← Ny503.out] at ho; have HB := am (hb); have HO505 := am (ho); clear ho hb hg hat))
            go_roundg kj24
            case measure => have := HK1.out; have := HJ4.out; have := HK3.out; have := HJ24.out; omega
            case rel => exact ⟨(y503), (wrap64 ((wrap64 (x5_1 + x7_4)) + 1)), (rs), H', ⟨by have := HK1.out; have := HJ4.out; have := HK3.out; have := HJ24.out; omega⟩, ⟨ks HO505.out⟩, ⟨bl HB.out⟩⟩
           rw [if_neg c30] at H
           exact absurd H (by simp)
    rw [if_neg c3] at H
    exact absurd H (by simp)
   rw [if_neg c2] at H
   have c2b0 : decide (x5_1 < (a0.size : Int)) = false := decide_eq_false c2
   clear c2
   simp only [Option.some.injEq, Prod.mk.injEq] at H
   obtain ⟨rfl, rfl⟩ := H
   obtain ⟨Ao32, co32, eo32⟩ := Kd.R_slice HO_4.out
   subst eo32
   go_wp2
   go_ret2
   exact ⟨_, re, ks HO_4.out, bl HB.out⟩
end Go.Proofs.YtinbpjodheceoaaDoor.Sp
