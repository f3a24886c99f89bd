/- Written by this session's programs (sprint.py, prune.py). -/
import Derived.Test.YtinbpjodheceoaaDoorXgSp0
import Derived.Test.YtinbpjodheceoaaDoorXgSp28
import Derived.Test.YtinbpjodheceoaaDoorXgSp30
import Derived.Test.YtinbpjodheceoaaDoorXgSp31
namespace Go.Proofs.YtinbpjodheceoaaDoor.Sp
open Go.RowKit Go.Proofs.YtinbpjodheceoaaDoorW.PrintWords Go.Proofs.YtinbpjodheceoaaDoorW.PrintLast Go.Proofs.YtinbpjodheceoaaDoorW.PrintMore
attribute [local go_sem] max2_int min2_int max_two min_two max_three min_three max_four min_four   -- for this text's walks alone
set_option linter.unusedVariables false
set_option linter.unusedSimpArgs false
attribute [local go_sem] own_leq own_gtr own_geq   -- for this text's walks alone
mutual
def blotterref03_measure.j0 : Nat → Bool → Int → List (S43) → Option (Int × Int)
 | 0, _, _, _ => none
 | k + 1, x19, x519000, x519001 => if x19 = true then (some (0, 31)) else (if (x519001.length : Int) > 2000 then (some (0, 2)) else (blotterref03_measure.l0 k x519000 0 0 0 x519000 x519001))
def blotterref03_measure.l0 : Nat → Int → Int → Int → Int → Int → List (S43) → Option (Int × Int)
 | 0, _, _, _, _, _, _ => none
 | k + 1, x4, x5, x6, x7, x519000, x519001 => if x7 < (x519001.length : Int) then (if 0 ≤ x7 then ((blotterref03_formed.f ((rd_T43 x519001 x7).f0) ((rd_T43 x519001 x7).f1) ((rd_T43 x519001 x7).f2) ((rd_T43 x519001 x7).f3)).bind fun t521 => (if t521 = true then (if ((rd_T43 x519001 x7).f0) = 2 then ((blotterref01_Count.f k ((rd_T43 x519001 x7).f2)).bind fun bt522 => (if bt522.2 = 0 then ((blotterref02_Right.f k ((rd_T43 x519001 x7).f3)).bind fun t524 => (if t524 = 0 then (blotterref03_measure.l0 k x4 x5 (wrap64 (x6 + bt522.1)) (wrap64 (x7 + 1)) x519000 x519001) else (some (0, 20)))) else (some (0, bt522.2)))) else ((blotterref02_Change.f k ((rd_T43 x519001 x7).f3)).bind fun t525 => (if t525 = 0 then (if ((rd_T43 x519001 x7).f1) > x4 then (some (0, 31)) else (if ((rd_T43 x519001 x7).f0) = 3 then (blotterref03_measure.l0 k (wrap64 (x4 - ((rd_T43 x519001 x7).f1))) (wrap64 (x5 + ((rd_T43 x519001 x7).f1))) x6 (wrap64 (x7 + 1)) x519000 x519001) else (blotterref03_measure.l0 k (wrap64 (x4 - ((rd_T43 x519001 x7).f1))) x5 x6 (wrap64 (x7 + 1)) x519000 x519001))) else (some (0, 20))))) else (some (0, 30)))) else (none)) else (if (wrap64 ((wrap64 (x519000 - x5)) + x6)) > 20000 then (some (0, 3)) else (some (wrap64 ((wrap64 (x519000 - x5)) + x6), 0)))
end
def blotterref03_measure.f (k : Nat) (a0_0 : Int) (l0_1 : List (S43)) : Option (Int × Int) := if a0_0 < 0 then (blotterref03_measure.j0 k true a0_0 l0_1) else (blotterref03_measure.j0 k (decide (a0_0 > 20000)) a0_0 l0_1)
theorem blotterref03_measure.mono_l : ∀ k, (∀ y0 y1 y2, LeO (blotterref03_measure.j0 k y0 y1 y2) (blotterref03_measure.j0 (k + 1) y0 y1 y2)) ∧ (∀ y0 y1 y2 y3 y4 y5, LeO (blotterref03_measure.l0 k y0 y1 y2 y3 y4 y5) (blotterref03_measure.l0 (k + 1) y0 y1 y2 y3 y4 y5))
 | 0 => ⟨fun _ _ _ r h => by simp [blotterref03_measure.j0] at h, fun _ _ _ _ _ _ r h => by simp [blotterref03_measure.l0] at h⟩
 | k + 1 => by
  obtain ⟨ih0, ih1⟩ := blotterref03_measure.mono_l k
  refine ⟨?_, ?_⟩
  ·intro y0 y1 y2
   unfold blotterref03_measure.j0
   have m0 := @blotterref01_Count.mono; have m1 := @blotterref02_Change.mono; have m2 := @blotterref02_Right.mono; exact lo
  intro y0 y1 y2 y3 y4 y5
  unfold blotterref03_measure.l0
  have m0 := @blotterref01_Count.mono; have m1 := @blotterref02_Change.mono; have m2 := @blotterref02_Right.mono; exact lo
theorem blotterref03_measure.mono : ∀ a0 a1 k, LeO (blotterref03_measure.f k a0 a1) (blotterref03_measure.f (k + 1) a0 a1) := by
 intro a0 a1 k
 obtain ⟨ih0, ih1⟩ := blotterref03_measure.mono_l k
 unfold blotterref03_measure.f
 have m0 := @blotterref01_Count.mono; have m1 := @blotterref02_Change.mono; have m2 := @blotterref02_Right.mono; exact lo
set_option maxHeartbeats 8000000 in
set_option maxRecDepth 100000 in
theorem blotterref03_measure.calls (k : Nat) (a0_0 : Int) (A0_1 : Option Addr) (c0_1 : Nat) (l0_1 : List (S43)) (r1 : Int) (r2 : Int) (w : World) (hr0_1 : Kd.C k43 w A0_1 l0_1.length l0_1) (hc0_1 : l0_1.length ≤ c0_1) (h : blotterref03_measure.f k a0_0 l0_1 = some (r1, r2)) :
 Calls Tryd.prog 52 #[.agg #[.int .i64 a0_0, .slice A0_1 l0_1.length c0_1]] w fun e w' => e = .returned (.tuple #[.int .i64 r1, .int .i64 r2]) ∧ Below w.heap.size w w' := by
 have hu26 := Tryd.underlying26
 have hu43 := Tryd.underlying43
 have HR0_1 := am hr0_1
 have HC0_1 := am hc0_1
 clear hr0_1 hc0_1
 have HB := am (Below.refl w.heap.size w)
 have H : (if a0_0 < 0 then (blotterref03_measure.j0 k true a0_0 l0_1) else (blotterref03_measure.j0 k (decide (a0_0 > 20000)) a0_0 l0_1)) = some (r1, r2) := h
 clear h
 have HC2 := am H
 clear H
 go_enter Tryd.func52, Tryd.ntmps52
 go_upto_region 1 with (first | ((with_reducible refine gate_dst (N := 1) rfl ?_); refine bev #[.int .i64 a0_0, .slice A0_1 l0_1.length c0_1] 26 ?_; intro gb518 hg w3 hbox hb; have BK518 := am (hbox); have GW518 := am (szl hg (bl HB.out)); have GE518 := am (szl hg (bl HB.out)); have HB := am (below_step (bl HB.out) hb); clear hb hbox hg))
 (try simp only [Act.put, List.setIfInBounds_toArray, List.set_cons_zero, List.set_cons_succ])
 go_cut [19] (fun v19 wc => ∃ (kq : Nat) (x19_1 : Bool), v19 = .bool x19_1 ∧ Aside0 (blotterref03_measure.j0 kq x19_1 a0_0 l0_1 = some (r1, r2)) ∧ Aside0 (kq ≤ k) ∧ Aside0 (wc.heap[gb518]? = some (.cells #[.int .i64 a0_0, (.slice A0_1 l0_1.length c0_1)] 26 (0, 0))) ∧ Aside0 (Below w.heap.size w wc))
 case first =>
  have H := HC2.out
  clear HC2
  by_cases c4 : a0_0 < 0
  ·rw [if_pos c4] at H
   have c4b0 : decide (a0_0 < 0) = true := decide_eq_true c4
   clear c4
   (first | rw [c4b0] | (simp only [i64_w, i32_w]; rw [c4b0]) | skip)
   have H' := am H
   clear H
   have hcz5_0 : w3.cell? ⟨gb518, 0, none⟩ = some (.int .i64 a0_0) := (blk_cell BK518.out 0).trans rfl
   have hcz5_1 : w3.cell? ⟨gb518, 1, none⟩ = some (.slice A0_1 l0_1.length c0_1) := (blk_cell BK518.out 1).trans rfl
   have hfz5_0 := blk_frozen BK518.out 0
   have hfz5_1 := blk_frozen BK518.out 1
   go_wp2
   go_meet
   case rel => exact ⟨_, (true), (rs), H', ⟨by first | omega | exact Nat.le_refl _⟩, ⟨bk BK518.out⟩, ⟨bl HB.out⟩⟩
  rw [if_neg c4] at H
  have c4b0 : decide (a0_0 < 0) = false := decide_eq_false c4
  clear c4
  (first | rw [c4b0] | (simp only [i64_w, i32_w]; rw [c4b0]) | skip)
  have H' := am H
  clear H
  have hcz6_0 : w3.cell? ⟨gb518, 0, none⟩ = some (.int .i64 a0_0) := (blk_cell BK518.out 0).trans rfl
  have hcz6_1 : w3.cell? ⟨gb518, 1, none⟩ = some (.slice A0_1 l0_1.length c0_1) := (blk_cell BK518.out 1).trans rfl
  have hfz6_0 := blk_frozen BK518.out 0
  have hfz6_1 := blk_frozen BK518.out 1
  go_wp2
  go_meet
  case rel => exact ⟨_, (decide (a0_0 > 20000)), (rs), H', ⟨by first | omega | exact Nat.le_refl _⟩, ⟨bk BK518.out⟩, ⟨bl HB.out⟩⟩
 case rest =>
  clear HC2
  try clear p2; try clear c4; try clear c4b0; try clear c5; try clear hcz5_0; try clear hcz5_1; try clear hcz6_0; try clear hcz6_1; try clear hfz5_0; try clear hfz5_1; try clear hfz6_0; try clear hfz6_1
  obtain ⟨kq, x19_1, rfl, HA, HJ1, BK518, HB⟩ := hcut
  cases kq with
  | zero => exact absurd HA.out (by simp [blotterref03_measure.j0])
  | succ kj1 =>
   have H := HA.out
   clear HA
   simp only [blotterref03_measure.j0] at H
   by_cases c7 : x19_1 = true
   ·subst c7
    have H1 : (some (0, 31)) = some (r1, r2) := by rw [if_pos rfl] at H; exact H
    clear H
    have H := H1
    clear H1
    simp only [Option.some.injEq, Prod.mk.injEq] at H
    obtain ⟨rfl, rfl⟩ := H
    go_wp2
    go_ret2
    exact ⟨re, bl HB.out⟩
   replace c7 := Bool.eq_false_iff.mpr c7
   subst c7
   have H1 : (if (l0_1.length : Int) > 2000 then (some (0, 2)) else (blotterref03_measure.l0 kj1 a0_0 0 0 0 a0_0 l0_1)) = some (r1, r2) := by rw [if_neg (show ¬ (false = true) by decide)] at H; exact H
   clear H
   have H := H1
   clear H1
   by_cases c8 : (l0_1.length : Int) > 2000
   ·rw [if_pos c8] at H
    have c8b0 : decide (2000 < (l0_1.length : Int)) = true := decide_eq_true c8
    have c8b1 : decide (2000 < l0_1.length) = true := decide_eq_true (by omega)
    clear c8
    simp only [Option.some.injEq, Prod.mk.injEq] at H
    obtain ⟨rfl, rfl⟩ := H
    have hcz9_0 : wc.cell? ⟨gb518, 0, none⟩ = some (.int .i64 a0_0) := (blk_cell BK518.out 0).trans rfl
    have hcz9_1 : wc.cell? ⟨gb518, 1, none⟩ = some (.slice A0_1 l0_1.length c0_1) := (blk_cell BK518.out 1).trans rfl
    have hfz9_0 := blk_frozen BK518.out 0
    have hfz9_1 := blk_frozen BK518.out 1
    go_wp2
    go_ret2
    exact ⟨re, bl HB.out⟩
   rw [if_neg c8] at H
   have c8b0 : decide (2000 < (l0_1.length : Int)) = false := decide_eq_false c8
   have c8b1 : decide (2000 < l0_1.length) = false := decide_eq_false (by omega)
   clear c8
   have H' := am H
   clear H
   have hcz10_0 : wc.cell? ⟨gb518, 0, none⟩ = some (.int .i64 a0_0) := (blk_cell BK518.out 0).trans rfl
   have hcz10_1 : wc.cell? ⟨gb518, 1, none⟩ = some (.slice A0_1 l0_1.length c0_1) := (blk_cell BK518.out 1).trans rfl
   have hfz10_0 := blk_frozen BK518.out 0
   have hfz10_1 := blk_frozen BK518.out 1
   go_wp2
   go_loopg [4, 5, 6, 7] kj1 (fun kq v4 v5 v6 v7 w' => ∃ (x4_2 : Int) (x5_2 : Int) (x6_2 : Int) (x7_2 : Int), v4 = .int .i64 x4_2 ∧ v5 = .int .i64 x5_2 ∧ v6 = .int .i64 x6_2 ∧ v7 = .int .i64 x7_2 ∧ Aside0 (blotterref03_measure.l0 kq x4_2 x5_2 x6_2 x7_2 a0_0 l0_1 = some (r1, r2)) ∧ Aside0 (kq ≤ kj1) ∧ Aside0 (w'.heap[gb518]? = some (.cells #[.int .i64 a0_0, (.slice A0_1 l0_1.length c0_1)] 26 (0, 0))) ∧ Aside0 (Below w.heap.size w w'))
   case atStart => exact ⟨(a0_0), (0), (0), (0), (rs), (rs), (rs), (rs), H', ⟨Nat.le_refl _⟩, ⟨bk BK518.out⟩, ⟨bl HB.out⟩⟩
   case round =>
    clear H'
    try clear p2; try clear c4; try clear c4b0; try clear c5; try clear c7; try clear c8; try clear c8b0; try clear c8b1; try clear hcz10_0; try clear hcz10_1; try clear hcz5_0; try clear hcz5_1; try clear hcz6_0; try clear hcz6_1; try clear hcz9_0; try clear hcz9_1; try clear hfz10_0; try clear hfz10_1; try clear hfz5_0; try clear hfz5_1; try clear hfz6_0; try clear hfz6_1; try clear hfz9_0; try clear hfz9_1; try clear p2
    obtain ⟨x4_2, x5_2, x6_2, x7_2, rfl, rfl, rfl, rfl, HA, HK2, BK518, HB⟩ := hrel
    cases gk with
    | zero => exact absurd HA.out (by simp [blotterref03_measure.l0])
    | succ k2 =>
     have H := HA.out
     clear HA
     simp only [blotterref03_measure.l0] at H
     by_cases c11 : x7_2 < (l0_1.length : Int)
     ·rw [if_pos c11] at H
      have c11b0 : decide (x7_2 < (l0_1.length : Int)) = true := decide_eq_true c11
      clear c11
      by_cases c12 : 0 ≤ x7_2
      ·rw [if_pos c12] at H
       have c12b0 : decide (0 ≤ x7_2) = true := decide_eq_true c12
       clear c12
       replace H := Option.bind_eq_some_iff.mp H
       obtain ⟨t521, A130, H⟩ := H
       replace H : (if t521 = true then (if ((rd_T43 l0_1 x7_2).f0) = 2 then ((blotterref01_Count.f k2 ((rd_T43 l0_1 x7_2).f2)).bind fun bt522 => (if bt522.2 = 0 then ((blotterref02_Right.f k2 ((rd_T43 l0_1 x7_2).f3)).bind fun t524 => (if t524 = 0 then (blotterref03_measure.l0 k2 x4_2 x5_2 (wrap64 (x6_2 + bt522.1)) (wrap64 (x7_2 + 1)) a0_0 l0_1) else (some (0, 20)))) else (some (0, bt522.2)))) else ((blotterref02_Change.f k2 ((rd_T43 l0_1 x7_2).f3)).bind fun t525 => (if t525 = 0 then (if ((rd_T43 l0_1 x7_2).f1) > x4_2 then (some (0, 31)) else (if ((rd_T43 l0_1 x7_2).f0) = 3 then (blotterref03_measure.l0 k2 (wrap64 (x4_2 - ((rd_T43 l0_1 x7_2).f1))) (wrap64 (x5_2 + ((rd_T43 l0_1 x7_2).f1))) x6_2 (wrap64 (x7_2 + 1)) a0_0 l0_1) else (blotterref03_measure.l0 k2 (wrap64 (x4_2 - ((rd_T43 l0_1 x7_2).f1))) x5_2 x6_2 (wrap64 (x7_2 + 1)) a0_0 l0_1))) else (some (0, 20))))) else (some (0, 30))) = some (r1, r2) := H
       have A13 := am A130
       clear A130
       by_cases c14 : t521 = true
       ·subst c14
        have H1 : (if ((rd_T43 l0_1 x7_2).f0) = 2 then ((blotterref01_Count.f k2 ((rd_T43 l0_1 x7_2).f2)).bind fun bt522 => (if bt522.2 = 0 then ((blotterref02_Right.f k2 ((rd_T43 l0_1 x7_2).f3)).bind fun t524 => (if t524 = 0 then (blotterref03_measure.l0 k2 x4_2 x5_2 (wrap64 (x6_2 + bt522.1)) (wrap64 (x7_2 + 1)) a0_0 l0_1) else (some (0, 20)))) else (some (0, bt522.2)))) else ((blotterref02_Change.f k2 ((rd_T43 l0_1 x7_2).f3)).bind fun t525 => (if t525 = 0 then (if ((rd_T43 l0_1 x7_2).f1) > x4_2 then (some (0, 31)) else (if ((rd_T43 l0_1 x7_2).f0) = 3 then (blotterref03_measure.l0 k2 (wrap64 (x4_2 - ((rd_T43 l0_1 x7_2).f1))) (wrap64 (x5_2 + ((rd_T43 l0_1 x7_2).f1))) x6_2 (wrap64 (x7_2 + 1)) a0_0 l0_1) else (blotterref03_measure.l0 k2 (wrap64 (x4_2 - ((rd_T43 l0_1 x7_2).f1))) x5_2 x6_2 (wrap64 (x7_2 + 1)) a0_0 l0_1))) else (some (0, 20))))) = some (r1, r2) := by rw [if_pos rfl] at H; exact H
        clear H
        have H := H1
        clear H1
        by_cases c15 : ((rd_T43 l0_1 x7_2).f0) = 2
        ·rw [if_pos c15] at H
         have c15b0 : (((rd_T43 l0_1 x7_2).f0) == 2) = true := beq_iff_eq.mpr c15
         have c15b1 : (((rd_T43 l0_1 x7_2).f0) != 2) = false := bne_eq_false_iff_eq.mpr c15
         clear c15
         replace H := Option.bind_eq_some_iff.mp H
         obtain ⟨⟨t522, t523⟩, A160, H⟩ := H
         replace H : (if t523 = 0 then ((blotterref02_Right.f k2 ((rd_T43 l0_1 x7_2).f3)).bind fun t524 => (if t524 = 0 then (blotterref03_measure.l0 k2 x4_2 x5_2 (wrap64 (x6_2 + t522)) (wrap64 (x7_2 + 1)) a0_0 l0_1) else (some (0, 20)))) else (some (0, t523))) = some (r1, r2) := H
         have A16 := am A160
         clear A160
         by_cases c17 : t523 = 0
         ·rw [if_pos c17] at H
          have c17b0 : (t523 == 0) = true := beq_iff_eq.mpr c17
          have c17b1 : (t523 != 0) = false := bne_eq_false_iff_eq.mpr c17
          clear c17
          replace H := Option.bind_eq_some_iff.mp H
          obtain ⟨t524, A180, H⟩ := H
          replace H : (if t524 = 0 then (blotterref03_measure.l0 k2 x4_2 x5_2 (wrap64 (x6_2 + t522)) (wrap64 (x7_2 + 1)) a0_0 l0_1) else (some (0, 20))) = some (r1, r2) := H
          have A18 := am A180
          clear A180
          by_cases c19 : t524 = 0
          ·rw [if_pos c19] at H
           have c19b0 : (t524 == 0) = true := beq_iff_eq.mpr c19
           have c19b1 : (t524 != 0) = false := bne_eq_false_iff_eq.mpr c19
           clear c19
           have H' := am H
           clear H
           have hcz20_0 : wr.cell? ⟨gb518, 0, none⟩ = some (.int .i64 a0_0) := (blk_cell BK518.out 0).trans rfl
           have hcz20_1 : wr.cell? ⟨gb518, 1, none⟩ = some (.slice A0_1 l0_1.length c0_1) := (blk_cell BK518.out 1).trans rfl
           have hfz20_0 := blk_frozen BK518.out 0
           have hfz20_1 := blk_frozen BK518.out 1
           have p519 : 0 ≤ (x7_2 : Int) := oda
           have q519 : x7_2 < (l0_1.length : Int) := oda
           obtain ⟨ad519, A519_3, c519_3, e519, hx519_0, hx519_1, hx519_2, hx519_3, hl519_3, hi519_3⟩ := at_T43 HR0_1.out x7_2 p519 q519
           cases e519
           replace hx519_0 := hbc HB hx519_0
           replace hx519_1 := hbc HB hx519_1
           replace hx519_2 := hbc HB hx519_2
           replace hx519_3 := hbc HB hx519_3
           have HR519_3 := am hi519_3
           have HC519_3 := am hl519_3
           clear hi519_3 hl519_3
           replace p519 := eq_true p519
           replace q519 := eq_true q519
           go_wp2_with (first | ((with_reducible refine gate_dst (N := 8) rfl ?_); refine bev #[.int .i64 0, .int .i64 0, .string (⟨#[]⟩ : ByteArray), .slice none 0 0] 43 ?_; intro gb520 hg w21 hbox hb; have BK520 := am (hbox); have GW520 := am (szl hg (bl HB.out)); have GE520 := am (szl hg (bl HB.out)); have HB := am (below_step (bl HB.out) hb); have NB518_520 := am (nel hg (bk BK518.out)); have NB520_518 := am (neg_ hg (bk BK518.out)); have BK518 := am (blk_below (bk BK518.out) hb); clear hb hbox hg; have hnb22 := NB520_518.out; have hnc22 := NB518_520.out; obtain ⟨hcz23_0, hcz23_1, hcz23_2, hcz23_3, hfz23_0, hfz23_1, hfz23_2, hfz23_3⟩ := bc4 BK520.out) | ((with_reducible refine gate_callee (f := 69) rfl ?_); refine goesL_ (some 39) rfl rfl Tryd.func69 (by kernel_rfl) rfl #[.agg #[.int .i64 ((rd_T43 l0_1 x7_2).f0), .int .i64 ((rd_T43 l0_1 x7_2).f1), .string ((rd_T43 l0_1 x7_2).f2), .slice A519_3 ((rd_T43 l0_1 x7_2).f3).length c519_3]] rfl (by (try simp only [List.map_toArray, List.map_cons, List.map_nil]); first | done | rfl | (simp only [List.length_drop, List.length_take]; rfl)) ?_; (with_reducible refine (blotterref03_formed.calls ((rd_T43 l0_1 x7_2).f0) ((rd_T43 l0_1 x7_2).f1) ((rd_T43 l0_1 x7_2).f2) _ _ ((rd_T43 l0_1 x7_2).f3) true _ ?side1 ?side2 A13.out).mono ?_); (case side1 => exact Kd.C_below HR519_3.out (bl HB.out)); (case side2 => exact HC519_3.out); rintro e w24 ⟨rfl, hb⟩; refine ⟨_, rfl, ?_⟩; have BK518 := am (blk_below (bk BK518.out) hb); have BK520 := am (blk_below (g := gb520) (o := .cells #[.int .i64 ((rd_T43 l0_1 x7_2).f0), .int .i64 ((rd_T43 l0_1 x7_2).f1), .string ((rd_T43 l0_1 x7_2).f2), .slice A519_3 ((rd_T43 l0_1 x7_2).f3).length c519_3] 43 (0, 0)) (bp BK520.out) hb); have HB := am (below_step (bl HB.out) hb); (try clear hb); (try clear hb2); (try clear hk); (try clear hi); obtain ⟨hcz25_0, hcz25_1, hcz25_2, hcz25_3, hfz25_0, hfz25_1, hfz25_2, hfz25_3⟩ := bc4 BK520.out) | ((with_reducible refine gate_callee (f := 70) rfl ?_); refine goesL_ (some 48) rfl rfl Tryd.func70 (by kernel_rfl) rfl #[.string ((rd_T43 l0_1 x7_2).f2)] rfl (by (try simp only [List.map_toArray, List.map_cons, List.map_nil]); first | done | rfl | (simp only [List.length_drop, List.length_take]; rfl)) ?_; (with_reducible refine (blotterref01_Count.calls k2 ((rd_T43 l0_1 x7_2).f2) t522 t523 _ A16.out).mono ?_); rintro e w26 ⟨rfl, hb⟩; refine ⟨_, rfl, ?_⟩; have BK518 := am (blk_below (bk BK518.out) hb); have BK520 := am (blk_below (bk BK520.out) hb); have HB := am (below_step (bl HB.out) hb); (try clear hb); (try clear hb2); (try clear hk); (try clear hi); obtain ⟨hcz27_0, hcz27_1, hcz27_2, hcz27_3, hfz27_0, hfz27_1, hfz27_2, hfz27_3⟩ := bc4 BK520.out) | ((with_reducible refine gate_callee (f := 71) rfl ?_); refine goesL_ (some 56) rfl rfl Tryd.func71 (by kernel_rfl) rfl #[.slice A519_3 ((rd_T43 l0_1 x7_2).f3).length c519_3] rfl (by (try simp only [List.map_toArray, List.map_cons, List.map_nil]); first | done | rfl | (simp only [List.length_drop, List.length_take]; rfl)) ?_; (with_reducible refine (blotterref02_Right.calls k2 _ _ ((rd_T43 l0_1 x7_2).f3) t524 _ ?side1 ?side2 A18.out).mono ?_); (case side1 => exact ks (Kd.C_below HR519_3.out HB.out)); (case side2 => exact HC519_3.out); rintro e w' ⟨rfl, ⟨nd, rfl⟩⟩; refine ⟨_, rfl, ?_⟩))
           go_roundg k2
           case measure => have := HJ1.out; have := HK2.out; omega
           case rel => exact ⟨(x4_2), (x5_2), (wrap64 (x6_2 + t522)), (wrap64 (x7_2 + 1)), (rs), (rs), (rs), (rs), H', ⟨by have := HJ1.out; have := HK2.out; omega⟩, ⟨bk BK518.out⟩, ⟨bl HB.out⟩⟩
          rw [if_neg c19] at H
          have c19b0 : (t524 == 0) = false := beq_eq_false_iff_ne.mpr c19
          have c19b1 : (t524 != 0) = true := bne_iff_ne.mpr c19
          simp only [Option.some.injEq, Prod.mk.injEq] at H
          obtain ⟨rfl, rfl⟩ := H
          have hcz28_0 : wr.cell? ⟨gb518, 0, none⟩ = some (.int .i64 a0_0) := (blk_cell BK518.out 0).trans rfl
          have hcz28_1 : wr.cell? ⟨gb518, 1, none⟩ = some (.slice A0_1 l0_1.length c0_1) := (blk_cell BK518.out 1).trans rfl
          have hfz28_0 := blk_frozen BK518.out 0
          have hfz28_1 := blk_frozen BK518.out 1
          have p519 : 0 ≤ (x7_2 : Int) := oda
          have q519 : x7_2 < (l0_1.length : Int) := oda
          obtain ⟨ad519, A519_3, c519_3, e519, hx519_0, hx519_1, hx519_2, hx519_3, hl519_3, hi519_3⟩ := at_T43 HR0_1.out x7_2 p519 q519
          cases e519
          replace hx519_0 := hbc HB hx519_0
          replace hx519_1 := hbc HB hx519_1
          replace hx519_2 := hbc HB hx519_2
          replace hx519_3 := hbc HB hx519_3
          have HR519_3 := am hi519_3
          have HC519_3 := am hl519_3
          clear hi519_3 hl519_3
          replace p519 := eq_true p519
          replace q519 := eq_true q519
          go_wp2_with (first | ((with_reducible refine gate_dst (N := 8) rfl ?_); refine bev #[.int .i64 0, .int .i64 0, .string (⟨#[]⟩ : ByteArray), .slice none 0 0] 43 ?_; intro gb520 hg w29 hbox hb; have BK520 := am (hbox); have GW520 := am (szl hg (bl HB.out)); have GE520 := am (szl hg (bl HB.out)); have HB := am (below_step (bl HB.out) hb); have NB518_520 := am (nel hg (bk BK518.out)); have NB520_518 := am (neg_ hg (bk BK518.out)); have BK518 := am (blk_below (bk BK518.out) hb); clear hb hbox hg; have hnb30 := NB520_518.out; have hnc30 := NB518_520.out; obtain ⟨hcz31_0, hcz31_1, hcz31_2, hcz31_3, hfz31_0, hfz31_1, hfz31_2, hfz31_3⟩ := bc4 BK520.out) | ((with_reducible refine gate_callee (f := 69) rfl ?_); refine goesL_ (some 39) rfl rfl Tryd.func69 (by kernel_rfl) rfl #[.agg #[.int .i64 ((rd_T43 l0_1 x7_2).f0), .int .i64 ((rd_T43 l0_1 x7_2).f1), .string ((rd_T43 l0_1 x7_2).f2), .slice A519_3 ((rd_T43 l0_1 x7_2).f3).length c519_3]] rfl (by (try simp only [List.map_toArray, List.map_cons, List.map_nil]); first | done | rfl | (simp only [List.length_drop, List.length_take]; rfl)) ?_; (with_reducible refine (blotterref03_formed.calls ((rd_T43 l0_1 x7_2).f0) ((rd_T43 l0_1 x7_2).f1) ((rd_T43 l0_1 x7_2).f2) _ _ ((rd_T43 l0_1 x7_2).f3) true _ ?side1 ?side2 A13.out).mono ?_); (case side1 => exact Kd.C_below HR519_3.out (bl HB.out)); (case side2 => exact HC519_3.out); rintro e w32 ⟨rfl, hb⟩; refine ⟨_, rfl, ?_⟩; have BK518 := am (blk_below (bk BK518.out) hb); have BK520 := am (blk_below (g := gb520) (o := .cells #[.int .i64 ((rd_T43 l0_1 x7_2).f0), .int .i64 ((rd_T43 l0_1 x7_2).f1), .string ((rd_T43 l0_1 x7_2).f2), .slice A519_3 ((rd_T43 l0_1 x7_2).f3).length c519_3] 43 (0, 0)) (bp BK520.out) hb); have HB := am (below_step (bl HB.out) hb); (try clear hb); (try clear hb2); (try clear hk); (try clear hi); obtain ⟨hcz33_0, hcz33_1, hcz33_2, hcz33_3, hfz33_0, hfz33_1, hfz33_2, hfz33_3⟩ := bc4 BK520.out) | ((with_reducible refine gate_callee (f := 70) rfl ?_); refine goesL_ (some 48) rfl rfl Tryd.func70 (by kernel_rfl) rfl #[.string ((rd_T43 l0_1 x7_2).f2)] rfl (by (try simp only [List.map_toArray, List.map_cons, List.map_nil]); first | done | rfl | (simp only [List.length_drop, List.length_take]; rfl)) ?_; (with_reducible refine (blotterref01_Count.calls k2 ((rd_T43 l0_1 x7_2).f2) t522 t523 _ A16.out).mono ?_); rintro e w34 ⟨rfl, hb⟩; refine ⟨_, rfl, ?_⟩; have BK518 := am (blk_below (bk BK518.out) hb); have BK520 := am (blk_below (bk BK520.out) hb); have HB := am (below_step (bl HB.out) hb); (try clear hb); (try clear hb2); (try clear hk); (try clear hi); obtain ⟨hcz35_0, hcz35_1, hcz35_2, hcz35_3, hfz35_0, hfz35_1, hfz35_2, hfz35_3⟩ := bc4 BK520.out) | ((with_reducible refine gate_callee (f := 71) rfl ?_); refine goesL_ (some 56) rfl rfl Tryd.func71 (by kernel_rfl) rfl #[.slice A519_3 ((rd_T43 l0_1 x7_2).f3).length c519_3] rfl (by (try simp only [List.map_toArray, List.map_cons, List.map_nil]); first | done | rfl | (simp only [List.length_drop, List.length_take]; rfl)) ?_; (with_reducible refine (blotterref02_Right.calls k2 _ _ ((rd_T43 l0_1 x7_2).f3) t524 _ ?side1 ?side2 A18.out).mono ?_); (case side1 => exact ks (Kd.C_below HR519_3.out HB.out)); (case side2 => exact HC519_3.out); rintro e w' ⟨rfl, ⟨nd, rfl⟩⟩; refine ⟨_, rfl, ?_⟩))
          go_ret2
          exact ⟨re, bl HB.out⟩
         rw [if_neg c17] at H
         have c17b0 : (t523 == 0) = false := beq_eq_false_iff_ne.mpr c17
         have c17b1 : (t523 != 0) = true := bne_iff_ne.mpr c17
         simp only [Option.some.injEq, Prod.mk.injEq] at H
         obtain ⟨rfl, rfl⟩ := H
         have hcz36_0 : wr.cell? ⟨gb518, 0, none⟩ = some (.int .i64 a0_0) := (blk_cell BK518.out 0).trans rfl
         have hcz36_1 : wr.cell? ⟨gb518, 1, none⟩ = some (.slice A0_1 l0_1.length c0_1) := (blk_cell BK518.out 1).trans rfl
         have hfz36_0 := blk_frozen BK518.out 0
         have hfz36_1 := blk_frozen BK518.out 1
         have p519 : 0 ≤ (x7_2 : Int) := oda
         have q519 : x7_2 < (l0_1.length : Int) := oda
         obtain ⟨ad519, A519_3, c519_3, e519, hx519_0, hx519_1, hx519_2, hx519_3, hl519_3, hi519_3⟩ := at_T43 HR0_1.out x7_2 p519 q519
         cases e519
         replace hx519_0 := hbc HB hx519_0
         replace hx519_1 := hbc HB hx519_1
         replace hx519_2 := hbc HB hx519_2
         replace hx519_3 := hbc HB hx519_3
         have HR519_3 := am hi519_3
         have HC519_3 := am hl519_3
         clear hi519_3 hl519_3
         replace p519 := eq_true p519
         replace q519 := eq_true q519
         go_wp2_with (first | ((with_reducible refine gate_dst (N := 8) rfl ?_); refine bev #[.int .i64 0, .int .i64 0, .string (⟨#[]⟩ : ByteArray), .slice none 0 0] 43 ?_; intro gb520 hg w37 hbox hb; have BK520 := am (hbox); have GW520 := am (szl hg (bl HB.out)); have GE520 := am (szl hg (bl HB.out)); have HB := am (below_step (bl HB.out) hb); have NB518_520 := am (nel hg (bk BK518.out)); have NB520_518 := am (neg_ hg (bk BK518.out)); have BK518 := am (blk_below (bk BK518.out) hb); clear hb hbox hg; have hnb38 := NB520_518.out; have hnc38 := NB518_520.out; obtain ⟨hcz39_0, hcz39_1, hcz39_2, hcz39_3, hfz39_0, hfz39_1, hfz39_2, hfz39_3⟩ := bc4 BK520.out) | ((with_reducible refine gate_callee (f := 69) rfl ?_); refine goesL_ (some 39) rfl rfl Tryd.func69 (by kernel_rfl) rfl #[.agg #[.int .i64 ((rd_T43 l0_1 x7_2).f0), .int .i64 ((rd_T43 l0_1 x7_2).f1), .string ((rd_T43 l0_1 x7_2).f2), .slice A519_3 ((rd_T43 l0_1 x7_2).f3).length c519_3]] rfl (by (try simp only [List.map_toArray, List.map_cons, List.map_nil]); first | done | rfl | (simp only [List.length_drop, List.length_take]; rfl)) ?_; (with_reducible refine (blotterref03_formed.calls ((rd_T43 l0_1 x7_2).f0) ((rd_T43 l0_1 x7_2).f1) ((rd_T43 l0_1 x7_2).f2) _ _ ((rd_T43 l0_1 x7_2).f3) true _ ?side1 ?side2 A13.out).mono ?_); (case side1 => exact Kd.C_below HR519_3.out (bl HB.out)); (case side2 => exact HC519_3.out); rintro e w40 ⟨rfl, hb⟩; refine ⟨_, rfl, ?_⟩; have BK518 := am (blk_below (bk BK518.out) hb); have BK520 := am (blk_below (g := gb520) (o := .cells #[.int .i64 ((rd_T43 l0_1 x7_2).f0), .int .i64 ((rd_T43 l0_1 x7_2).f1), .string ((rd_T43 l0_1 x7_2).f2), .slice A519_3 ((rd_T43 l0_1 x7_2).f3).length c519_3] 43 (0, 0)) (bp BK520.out) hb); have HB := am (below_step (bl HB.out) hb); (try clear hb); (try clear hb2); (try clear hk); (try clear hi); obtain ⟨hcz41_0, hcz41_1, hcz41_2, hcz41_3, hfz41_0, hfz41_1, hfz41_2, hfz41_3⟩ := bc4 BK520.out) | ((with_reducible refine gate_callee (f := 70) rfl ?_); refine goesL_ (some 48) rfl rfl Tryd.func70 (by kernel_rfl) rfl #[.string ((rd_T43 l0_1 x7_2).f2)] rfl (by (try simp only [List.map_toArray, List.map_cons, List.map_nil]); first | done | rfl | (simp only [List.length_drop, List.length_take]; rfl)) ?_; (with_reducible refine (blotterref01_Count.calls k2 ((rd_T43 l0_1 x7_2).f2) t522 t523 _ A16.out).mono ?_); rintro e w42 ⟨rfl, hb⟩; refine ⟨_, rfl, ?_⟩; have BK518 := am (blk_below (bk BK518.out) hb); have BK520 := am (blk_below (bk BK520.out) hb); have HB := am (below_step (bl HB.out) hb); (try clear hb); (try clear hb2); (try clear hk); (try clear hi)))
         go_ret2
         exact ⟨re, bl HB.out⟩
        rw [if_neg c15] at H
        have c15b0 : (((rd_T43 l0_1 x7_2).f0) == 2) = false := beq_eq_false_iff_ne.mpr c15
        have c15b1 : (((rd_T43 l0_1 x7_2).f0) != 2) = true := bne_iff_ne.mpr c15
        replace H := Option.bind_eq_some_iff.mp H
        obtain ⟨t525, A430, H⟩ := H
        replace H : (if t525 = 0 then (if ((rd_T43 l0_1 x7_2).f1) > x4_2 then (some (0, 31)) else (if ((rd_T43 l0_1 x7_2).f0) = 3 then (blotterref03_measure.l0 k2 (wrap64 (x4_2 - ((rd_T43 l0_1 x7_2).f1))) (wrap64 (x5_2 + ((rd_T43 l0_1 x7_2).f1))) x6_2 (wrap64 (x7_2 + 1)) a0_0 l0_1) else (blotterref03_measure.l0 k2 (wrap64 (x4_2 - ((rd_T43 l0_1 x7_2).f1))) x5_2 x6_2 (wrap64 (x7_2 + 1)) a0_0 l0_1))) else (some (0, 20))) = some (r1, r2) := H
        have A43 := am A430
        clear A430
        by_cases c44 : t525 = 0
        ·rw [if_pos c44] at H
         have c44b0 : (t525 == 0) = true := beq_iff_eq.mpr c44
         have c44b1 : (t525 != 0) = false := bne_eq_false_iff_eq.mpr c44
         clear c44
         by_cases c45 : ((rd_T43 l0_1 x7_2).f1) > x4_2
         ·rw [if_pos c45] at H
          have c45b0 : decide (x4_2 < ((rd_T43 l0_1 x7_2).f1)) = true := decide_eq_true c45
          clear c45
          simp only [Option.some.injEq, Prod.mk.injEq] at H
          obtain ⟨rfl, rfl⟩ := H
          have hcz46_0 : wr.cell? ⟨gb518, 0, none⟩ = some (.int .i64 a0_0) := (blk_cell BK518.out 0).trans rfl
          have hcz46_1 : wr.cell? ⟨gb518, 1, none⟩ = some (.slice A0_1 l0_1.length c0_1) := (blk_cell BK518.out 1).trans rfl
          have hfz46_0 := blk_frozen BK518.out 0
          have hfz46_1 := blk_frozen BK518.out 1
          have p519 : 0 ≤ (x7_2 : Int) := oda
          have q519 : x7_2 < (l0_1.length : Int) := oda
          obtain ⟨ad519, A519_3, c519_3, e519, hx519_0, hx519_1, hx519_2, hx519_3, hl519_3, hi519_3⟩ := at_T43 HR0_1.out x7_2 p519 q519
          cases e519
          replace hx519_0 := hbc HB hx519_0
          replace hx519_1 := hbc HB hx519_1
          replace hx519_2 := hbc HB hx519_2
          replace hx519_3 := hbc HB hx519_3
          have HR519_3 := am hi519_3
          have HC519_3 := am hl519_3
          clear hi519_3 hl519_3
          replace p519 := eq_true p519
          replace q519 := eq_true q519
          go_wp2_with (first | ((with_reducible refine gate_dst (N := 8) rfl ?_); refine bev #[.int .i64 0, .int .i64 0, .string (⟨#[]⟩ : ByteArray), .slice none 0 0] 43 ?_; intro gb520 hg w47 hbox hb; have BK520 := am (hbox); have GW520 := am (szl hg (bl HB.out)); have GE520 := am (szl hg (bl HB.out)); have HB := am (below_step (bl HB.out) hb); have NB518_520 := am (nel hg (bk BK518.out)); have NB520_518 := am (neg_ hg (bk BK518.out)); have BK518 := am (blk_below (bk BK518.out) hb); clear hb hbox hg; have hnb48 := NB520_518.out; have hnc48 := NB518_520.out; obtain ⟨hcz49_0, hcz49_1, hcz49_2, hcz49_3, hfz49_0, hfz49_1, hfz49_2, hfz49_3⟩ := bc4 BK520.out) | ((with_reducible refine gate_callee (f := 69) rfl ?_); refine goesL_ (some 39) rfl rfl Tryd.func69 (by kernel_rfl) rfl #[.agg #[.int .i64 ((rd_T43 l0_1 x7_2).f0), .int .i64 ((rd_T43 l0_1 x7_2).f1), .string ((rd_T43 l0_1 x7_2).f2), .slice A519_3 ((rd_T43 l0_1 x7_2).f3).length c519_3]] rfl (by (try simp only [List.map_toArray, List.map_cons, List.map_nil]); first | done | rfl | (simp only [List.length_drop, List.length_take]; rfl)) ?_; (with_reducible refine (blotterref03_formed.calls ((rd_T43 l0_1 x7_2).f0) ((rd_T43 l0_1 x7_2).f1) ((rd_T43 l0_1 x7_2).f2) _ _ ((rd_T43 l0_1 x7_2).f3) true _ ?side1 ?side2 A13.out).mono ?_); (case side1 => exact Kd.C_below HR519_3.out (bl HB.out)); (case side2 => exact HC519_3.out); rintro e w50 ⟨rfl, hb⟩; refine ⟨_, rfl, ?_⟩; have BK518 := am (blk_below (bk BK518.out) hb); have BK520 := am (blk_below (g := gb520) (o := .cells #[.int .i64 ((rd_T43 l0_1 x7_2).f0), .int .i64 ((rd_T43 l0_1 x7_2).f1), .string ((rd_T43 l0_1 x7_2).f2), .slice A519_3 ((rd_T43 l0_1 x7_2).f3).length c519_3] 43 (0, 0)) (bp BK520.out) hb); have HB := am (below_step (bl HB.out) hb); (try clear hb); (try clear hb2); (try clear hk); (try clear hi); obtain ⟨hcz51_0, hcz51_1, hcz51_2, hcz51_3, hfz51_0, hfz51_1, hfz51_2, hfz51_3⟩ := bc4 BK520.out) | ((with_reducible refine gate_callee (f := 72) rfl ?_); refine goesL_ (some 63) rfl rfl Tryd.func72 (by kernel_rfl) rfl #[.slice A519_3 ((rd_T43 l0_1 x7_2).f3).length c519_3] rfl (by (try simp only [List.map_toArray, List.map_cons, List.map_nil]); first | done | rfl | (simp only [List.length_drop, List.length_take]; rfl)) ?_; (with_reducible refine (blotterref02_Change.calls k2 _ _ ((rd_T43 l0_1 x7_2).f3) t525 _ ?side1 ?side2 A43.out).mono ?_); (case side1 => exact ks (Kd.C_below HR519_3.out HB.out)); (case side2 => exact HC519_3.out); rintro e w' ⟨rfl, ⟨nd, rfl⟩⟩; refine ⟨_, rfl, ?_⟩))
          go_ret2
          exact ⟨re, bl HB.out⟩
         rw [if_neg c45] at H
         have c45b0 : decide (x4_2 < ((rd_T43 l0_1 x7_2).f1)) = false := decide_eq_false c45
         clear c45
         by_cases c52 : ((rd_T43 l0_1 x7_2).f0) = 3
         ·rw [if_pos c52] at H
          have c52b0 : (((rd_T43 l0_1 x7_2).f0) == 3) = true := beq_iff_eq.mpr c52
          have c52b1 : (((rd_T43 l0_1 x7_2).f0) != 3) = false := bne_eq_false_iff_eq.mpr c52
          clear c52
          have H' := am H
          clear H
          have hcz53_0 : wr.cell? ⟨gb518, 0, none⟩ = some (.int .i64 a0_0) := (blk_cell BK518.out 0).trans rfl
          have hcz53_1 : wr.cell? ⟨gb518, 1, none⟩ = some (.slice A0_1 l0_1.length c0_1) := (blk_cell BK518.out 1).trans rfl
          have hfz53_0 := blk_frozen BK518.out 0
          have hfz53_1 := blk_frozen BK518.out 1
          have p519 : 0 ≤ (x7_2 : Int) := oda
          have q519 : x7_2 < (l0_1.length : Int) := oda
          obtain ⟨ad519, A519_3, c519_3, e519, hx519_0, hx519_1, hx519_2, hx519_3, hl519_3, hi519_3⟩ := at_T43 HR0_1.out x7_2 p519 q519
          cases e519
          replace hx519_0 := hbc HB hx519_0
          replace hx519_1 := hbc HB hx519_1
          replace hx519_2 := hbc HB hx519_2
          replace hx519_3 := hbc HB hx519_3
          have HR519_3 := am hi519_3
          have HC519_3 := am hl519_3
          clear hi519_3 hl519_3
          replace p519 := eq_true p519
          replace q519 := eq_true q519
          go_wp2_with (first | ((with_reducible refine gate_dst (N := 8) rfl ?_); refine bev #[.int .i64 0, .int .i64 0, .string (⟨#[]⟩ : ByteArray), .slice none 0 0] 43 ?_; intro gb520 hg w54 hbox hb; have BK520 := am (hbox); have GW520 := am (szl hg (bl HB.out)); have GE520 := am (szl hg (bl HB.out)); have HB := am (below_step (bl HB.out) hb); have NB518_520 := am (nel hg (bk BK518.out)); have NB520_518 := am (neg_ hg (bk BK518.out)); have BK518 := am (blk_below (bk BK518.out) hb); clear hb hbox hg; have hnb55 := NB520_518.out; have hnc55 := NB518_520.out; obtain ⟨hcz56_0, hcz56_1, hcz56_2, hcz56_3, hfz56_0, hfz56_1, hfz56_2, hfz56_3⟩ := bc4 BK520.out) | ((with_reducible refine gate_callee (f := 69) rfl ?_); refine goesL_ (some 39) rfl rfl Tryd.func69 (by kernel_rfl) rfl #[.agg #[.int .i64 ((rd_T43 l0_1 x7_2).f0), .int .i64 ((rd_T43 l0_1 x7_2).f1), .string ((rd_T43 l0_1 x7_2).f2), .slice A519_3 ((rd_T43 l0_1 x7_2).f3).length c519_3]] rfl (by (try simp only [List.map_toArray, List.map_cons, List.map_nil]); first | done | rfl | (simp only [List.length_drop, List.length_take]; rfl)) ?_; (with_reducible refine (blotterref03_formed.calls ((rd_T43 l0_1 x7_2).f0) ((rd_T43 l0_1 x7_2).f1) ((rd_T43 l0_1 x7_2).f2) _ _ ((rd_T43 l0_1 x7_2).f3) true _ ?side1 ?side2 A13.out).mono ?_); (case side1 => exact Kd.C_below HR519_3.out (bl HB.out)); (case side2 => exact HC519_3.out); rintro e w57 ⟨rfl, hb⟩; refine ⟨_, rfl, ?_⟩; have BK518 := am (blk_below (bk BK518.out) hb); have BK520 := am (blk_below (g := gb520) (o := .cells #[.int .i64 ((rd_T43 l0_1 x7_2).f0), .int .i64 ((rd_T43 l0_1 x7_2).f1), .string ((rd_T43 l0_1 x7_2).f2), .slice A519_3 ((rd_T43 l0_1 x7_2).f3).length c519_3] 43 (0, 0)) (bp BK520.out) hb); have HB := am (below_step (bl HB.out) hb); (try clear hb); (try clear hb2); (try clear hk); (try clear hi); obtain ⟨hcz58_0, hcz58_1, hcz58_2, hcz58_3, hfz58_0, hfz58_1, hfz58_2, hfz58_3⟩ := bc4 BK520.out) | ((with_reducible refine gate_callee (f := 72) rfl ?_); refine goesL_ (some 63) rfl rfl Tryd.func72 (by kernel_rfl) rfl #[.slice A519_3 ((rd_T43 l0_1 x7_2).f3).length c519_3] rfl (by (try simp only [List.map_toArray, List.map_cons, List.map_nil]); first | done | rfl | (simp only [List.length_drop, List.length_take]; rfl)) ?_; (with_reducible refine (blotterref02_Change.calls k2 _ _ ((rd_T43 l0_1 x7_2).f3) t525 _ ?side1 ?side2 A43.out).mono ?_); (case side1 => exact ks (Kd.C_below HR519_3.out HB.out)); (case side2 => exact HC519_3.out); rintro e w' ⟨rfl, ⟨nd, rfl⟩⟩; refine ⟨_, rfl, ?_⟩))
          go_roundg k2
          case measure => have := HJ1.out; have := HK2.out; omega
          case rel => exact ⟨(wrap64 (x4_2 - ((rd_T43 l0_1 x7_2).f1))), (wrap64 (x5_2 + ((rd_T43 l0_1 x7_2).f1))), (x6_2), (wrap64 (x7_2 + 1)), (rs), (rs), (rs), (rs), H', ⟨by have := HJ1.out; have := HK2.out; omega⟩, ⟨bk BK518.out⟩, ⟨bl HB.out⟩⟩
         rw [if_neg c52] at H
         have c52b0 : (((rd_T43 l0_1 x7_2).f0) == 3) = false := beq_eq_false_iff_ne.mpr c52
         have c52b1 : (((rd_T43 l0_1 x7_2).f0) != 3) = true := bne_iff_ne.mpr c52
         have H' := am H
         clear H
         have hcz59_0 : wr.cell? ⟨gb518, 0, none⟩ = some (.int .i64 a0_0) := (blk_cell BK518.out 0).trans rfl
         have hcz59_1 : wr.cell? ⟨gb518, 1, none⟩ = some (.slice A0_1 l0_1.length c0_1) := (blk_cell BK518.out 1).trans rfl
         have hfz59_0 := blk_frozen BK518.out 0
         have hfz59_1 := blk_frozen BK518.out 1
         have p519 : 0 ≤ (x7_2 : Int) := oda
         have q519 : x7_2 < (l0_1.length : Int) := oda
         obtain ⟨ad519, A519_3, c519_3, e519, hx519_0, hx519_1, hx519_2, hx519_3, hl519_3, hi519_3⟩ := at_T43 HR0_1.out x7_2 p519 q519
         cases e519
         replace hx519_0 := hbc HB hx519_0
         replace hx519_1 := hbc HB hx519_1
         replace hx519_2 := hbc HB hx519_2
         replace hx519_3 := hbc HB hx519_3
         have HR519_3 := am hi519_3
         have HC519_3 := am hl519_3
         clear hi519_3 hl519_3
         replace p519 := eq_true p519
         replace q519 := eq_true q519
         go_wp2_with (first | ((with_reducible refine gate_dst (N := 8) rfl ?_); refine bev #[.int .i64 0, .int .i64 0, .string (⟨#[]⟩ : ByteArray), .slice none 0 0] 43 ?_; intro gb520 hg w60 hbox hb; have BK520 := am (hbox); have GW520 := am (szl hg (bl HB.out)); have GE520 := am (szl hg (bl HB.out)); have HB := am (below_step (bl HB.out) hb); have NB518_520 := am (nel hg (bk BK518.out)); have NB520_518 := am (neg_ hg (bk BK518.out)); have BK518 := am (blk_below (bk BK518.out) hb); clear hb hbox hg; have hnb61 := NB520_518.out; have hnc61 := NB518_520.out; obtain ⟨hcz62_0, hcz62_1, hcz62_2, hcz62_3, hfz62_0, hfz62_1, hfz62_2, hfz62_3⟩ := bc4 BK520.out) | ((with_reducible refine gate_callee (f := 69) rfl ?_); refine goesL_ (some 39) rfl rfl Tryd.func69 (by kernel_rfl) rfl #[.agg #[.int .i64 ((rd_T43 l0_1 x7_2).f0), .int .i64 ((rd_T43 l0_1 x7_2).f1), .string ((rd_T43 l0_1 x7_2).f2), .slice A519_3 ((rd_T43 l0_1 x7_2).f3).length c519_3]] rfl (by (try simp only [List.map_toArray, List.map_cons, List.map_nil]); first | done | rfl | (simp only [List.length_drop, List.length_take]; rfl)) ?_; (with_reducible refine (blotterref03_formed.calls ((rd_T43 l0_1 x7_2).f0) ((rd_T43 l0_1 x7_2).f1) ((rd_T43 l0_1 x7_2).f2) _ _ ((rd_T43 l0_1 x7_2).f3) true _ ?side1 ?side2 A13.out).mono ?_); (case side1 => exact Kd.C_below HR519_3.out (bl HB.out)); (case side2 => exact HC519_3.out); rintro e w63 ⟨rfl, hb⟩; refine ⟨_, rfl, ?_⟩; have BK518 := am (blk_below (bk BK518.out) hb); have BK520 := am (blk_below (g := gb520) (o := .cells #[.int .i64 ((rd_T43 l0_1 x7_2).f0), .int .i64 ((rd_T43 l0_1 x7_2).f1), .string ((rd_T43 l0_1 x7_2).f2), .slice A519_3 ((rd_T43 l0_1 x7_2).f3).length c519_3] 43 (0, 0)) (bp BK520.out) hb); have HB := am (below_step (bl HB.out) hb); (try clear hb); (try clear hb2); (try clear hk); (try clear hi); obtain ⟨hcz64_0, hcz64_1, hcz64_2, hcz64_3, hfz64_0, hfz64_1, hfz64_2, hfz64_3⟩ := bc4 BK520.out) | ((with_reducible refine gate_callee (f := 72) rfl ?_); refine goesL_ (some 63) rfl rfl Tryd.func72 (by kernel_rfl) rfl #[.slice A519_3 ((rd_T43 l0_1 x7_2).f3).length c519_3] rfl (by (try simp only [List.map_toArray, List.map_cons, List.map_nil]); first | done | rfl | (simp only [List.length_drop, List.length_take]; rfl)) ?_; (with_reducible refine (blotterref02_Change.calls k2 _ _ ((rd_T43 l0_1 x7_2).f3) t525 _ ?side1 ?side2 A43.out).mono ?_); (case side1 => exact ks (Kd.C_below HR519_3.out HB.out)); (case side2 => exact HC519_3.out); rintro e w' ⟨rfl, ⟨nd, rfl⟩⟩; refine ⟨_, rfl, ?_⟩))
         go_roundg k2
         case measure => have := HJ1.out; have := HK2.out; omega
         case rel => exact ⟨(wrap64 (x4_2 - ((rd_T43 l0_1 x7_2).f1))), (x5_2), (x6_2), (wrap64 (x7_2 + 1)), (rs), (rs), (rs), (rs), H', ⟨by have := HJ1.out; have := HK2.out; omega⟩, ⟨bk BK518.out⟩, ⟨bl HB.out⟩⟩
        rw [if_neg c44] at H
        have c44b0 : (t525 == 0) = false := beq_eq_false_iff_ne.mpr c44
        have c44b1 : (t525 != 0) = true := bne_iff_ne.mpr c44
        simp only [Option.some.injEq, Prod.mk.injEq] at H
        obtain ⟨rfl, rfl⟩ := H
        have hcz65_0 : wr.cell? ⟨gb518, 0, none⟩ = some (.int .i64 a0_0) := (blk_cell BK518.out 0).trans rfl
        have hcz65_1 : wr.cell? ⟨gb518, 1, none⟩ = some (.slice A0_1 l0_1.length c0_1) := (blk_cell BK518.out 1).trans rfl
        have hfz65_0 := blk_frozen BK518.out 0
        have hfz65_1 := blk_frozen BK518.out 1
        have p519 : 0 ≤ (x7_2 : Int) := oda
        have q519 : x7_2 < (l0_1.length : Int) := oda
        obtain ⟨ad519, A519_3, c519_3, e519, hx519_0, hx519_1, hx519_2, hx519_3, hl519_3, hi519_3⟩ := at_T43 HR0_1.out x7_2 p519 q519
        cases e519
        replace hx519_0 := hbc HB hx519_0
        replace hx519_1 := hbc HB hx519_1
        replace hx519_2 := hbc HB hx519_2
        replace hx519_3 := hbc HB hx519_3
        have HR519_3 := am hi519_3
        have HC519_3 := am hl519_3
        clear hi519_3 hl519_3
        replace p519 := eq_true p519
        replace q519 := eq_true q519
        go_wp2_with (first | ((with_reducible refine gate_dst (N := 8) rfl ?_); refine bev #[.int .i64 0, .int .i64 0, .string (⟨#[]⟩ : ByteArray), .slice none 0 0] 43 ?_; intro gb520 hg w66 hbox hb; have BK520 := am (hbox); have GW520 := am (szl hg (bl HB.out)); have GE520 := am (szl hg (bl HB.out)); have HB := am (below_step (bl HB.out) hb); have NB518_520 := am (nel hg (bk BK518.out)); have NB520_518 := am (neg_ hg (bk BK518.out)); have BK518 := am (blk_below (bk BK518.out) hb); clear hb hbox hg; have hnb67 := NB520_518.out; have hnc67 := NB518_520.out; obtain ⟨hcz68_0, hcz68_1, hcz68_2, hcz68_3, hfz68_0, hfz68_1, hfz68_2, hfz68_3⟩ := bc4 BK520.out) | ((with_reducible refine gate_callee (f := 69) rfl ?_); refine goesL_ (some 39) rfl rfl Tryd.func69 (by kernel_rfl) rfl #[.agg #[.int .i64 ((rd_T43 l0_1 x7_2).f0), .int .i64 ((rd_T43 l0_1 x7_2).f1), .string ((rd_T43 l0_1 x7_2).f2), .slice A519_3 ((rd_T43 l0_1 x7_2).f3).length c519_3]] rfl (by (try simp only [List.map_toArray, List.map_cons, List.map_nil]); first | done | rfl | (simp only [List.length_drop, List.length_take]; rfl)) ?_; (with_reducible refine (blotterref03_formed.calls ((rd_T43 l0_1 x7_2).f0) ((rd_T43 l0_1 x7_2).f1) ((rd_T43 l0_1 x7_2).f2) _ _ ((rd_T43 l0_1 x7_2).f3) true _ ?side1 ?side2 A13.out).mono ?_); (case side1 => exact Kd.C_below HR519_3.out (bl HB.out)); (case side2 => exact HC519_3.out); rintro e w69 ⟨rfl, hb⟩; refine ⟨_, rfl, ?_⟩; have BK518 := am (blk_below (bk BK518.out) hb); have BK520 := am (blk_below (g := gb520) (o := .cells #[.int .i64 ((rd_T43 l0_1 x7_2).f0), .int .i64 ((rd_T43 l0_1 x7_2).f1), .string ((rd_T43 l0_1 x7_2).f2), .slice A519_3 ((rd_T43 l0_1 x7_2).f3).length c519_3] 43 (0, 0)) (bp BK520.out) hb); have HB := am (below_step (bl HB.out) hb); (try clear hb); (try clear hb2); (try clear hk); (try clear hi); obtain ⟨hcz70_0, hcz70_1, hcz70_2, hcz70_3, hfz70_0, hfz70_1, hfz70_2, hfz70_3⟩ := bc4 BK520.out) | ((with_reducible refine gate_callee (f := 72) rfl ?_); refine goesL_ (some 63) rfl rfl Tryd.func72 (by kernel_rfl) rfl #[.slice A519_3 ((rd_T43 l0_1 x7_2).f3).length c519_3] rfl (by (try simp only [List.map_toArray, List.map_cons, List.map_nil]); first | done | rfl | (simp only [List.length_drop, List.length_take]; rfl)) ?_; (with_reducible refine (blotterref02_Change.calls k2 _ _ ((rd_T43 l0_1 x7_2).f3) t525 _ ?side1 ?side2 A43.out).mono ?_); (case side1 => exact ks (Kd.C_below HR519_3.out HB.out)); (case side2 => exact HC519_3.out); rintro e w' ⟨rfl, ⟨nd, rfl⟩⟩; refine ⟨_, rfl, ?_⟩))
        go_ret2
        exact ⟨re, bl HB.out⟩
       replace c14 := Bool.eq_false_iff.mpr c14
       subst c14
       have H1 : (some (0, 30)) = some (r1, r2) := by rw [if_neg (show ¬ (false = true) by decide)] at H; exact H
       clear H
       have H := H1
       clear H1
       simp only [Option.some.injEq, Prod.mk.injEq] at H
       obtain ⟨rfl, rfl⟩ := H
       have hcz71_0 : wr.cell? ⟨gb518, 0, none⟩ = some (.int .i64 a0_0) := (blk_cell BK518.out 0).trans rfl
       have hcz71_1 : wr.cell? ⟨gb518, 1, none⟩ = some (.slice A0_1 l0_1.length c0_1) := (blk_cell BK518.out 1).trans rfl
       have hfz71_0 := blk_frozen BK518.out 0
       have hfz71_1 := blk_frozen BK518.out 1
       have p519 : 0 ≤ (x7_2 : Int) := oda
       have q519 : x7_2 < (l0_1.length : Int) := oda
       obtain ⟨ad519, A519_3, c519_3, e519, hx519_0, hx519_1, hx519_2, hx519_3, hl519_3, hi519_3⟩ := at_T43 HR0_1.out x7_2 p519 q519
       cases e519
       replace hx519_0 := hbc HB hx519_0
       replace hx519_1 := hbc HB hx519_1
       replace hx519_2 := hbc HB hx519_2
       replace hx519_3 := hbc HB hx519_3
       have HR519_3 := am hi519_3
       have HC519_3 := am hl519_3
       clear hi519_3 hl519_3
       replace p519 := eq_true p519
       replace q519 := eq_true q519
       go_wp2_with (first | ((with_reducible refine gate_dst (N := 8) rfl ?_); refine bev #[.int .i64 0, .int .i64 0, .string (⟨#[]⟩ : ByteArray), .slice none 0 0] 43 ?_; intro gb520 hg w72 hbox hb; have BK520 := am (hbox); have GW520 := am (szl hg (bl HB.out)); have GE520 := am (szl hg (bl HB.out)); have HB := am (below_step (bl HB.out) hb); have NB518_520 := am (nel hg (bk BK518.out)); have NB520_518 := am (neg_ hg (bk BK518.out)); have BK518 := am (blk_below (bk BK518.out) hb); clear hb hbox hg; have hnb73 := NB520_518.out; have hnc73 := NB518_520.out; obtain ⟨hcz74_0, hcz74_1, hcz74_2, hcz74_3, hfz74_0, hfz74_1, hfz74_2, hfz74_3⟩ := bc4 BK520.out) | ((with_reducible refine gate_callee (f := 69) rfl ?_); refine goesL_ (some 39) rfl rfl Tryd.func69 (by kernel_rfl) rfl #[.agg #[.int .i64 ((rd_T43 l0_1 x7_2).f0), .int .i64 ((rd_T43 l0_1 x7_2).f1), .string ((rd_T43 l0_1 x7_2).f2), .slice A519_3 ((rd_T43 l0_1 x7_2).f3).length c519_3]] rfl (by (try simp only [List.map_toArray, List.map_cons, List.map_nil]); first | done | rfl | (simp only [List.length_drop, List.length_take]; rfl)) ?_; (with_reducible refine (blotterref03_formed.calls ((rd_T43 l0_1 x7_2).f0) ((rd_T43 l0_1 x7_2).f1) ((rd_T43 l0_1 x7_2).f2) _ _ ((rd_T43 l0_1 x7_2).f3) false _ ?side1 ?side2 A13.out).mono ?_); (case side1 => exact Kd.C_below HR519_3.out (bl HB.out)); (case side2 => exact HC519_3.out); rintro e w75 ⟨rfl, hb⟩; refine ⟨_, rfl, ?_⟩; have BK518 := am (blk_below (bk BK518.out) hb); have BK520 := am (blk_below (g := gb520) (o := .cells #[.int .i64 ((rd_T43 l0_1 x7_2).f0), .int .i64 ((rd_T43 l0_1 x7_2).f1), .string ((rd_T43 l0_1 x7_2).f2), .slice A519_3 ((rd_T43 l0_1 x7_2).f3).length c519_3] 43 (0, 0)) (bp BK520.out) hb); have HB := am (below_step (bl HB.out) hb); (try clear hb); (try clear hb2); (try clear hk); (try clear hi)))
       go_ret2
       exact ⟨re, bl HB.out⟩
      rw [if_neg c12] at H
      exact absurd H (by simp)
     rw [if_neg c11] at H
     have c11b0 : decide (x7_2 < (l0_1.length : Int)) = false := decide_eq_false c11
     clear c11
     by_cases c76 : (wrap64 ((wrap64 (a0_0 - x5_2)) + x6_2)) > 20000
     ·rw [if_pos c76] at H
      have c76b0 : decide (20000 < (wrap64 ((wrap64 (a0_0 - x5_2)) + x6_2))) = true := decide_eq_true c76
      clear c76
      simp only [Option.some.injEq, Prod.mk.injEq] at H
      obtain ⟨rfl, rfl⟩ := H
      have hcz77_0 : wr.cell? ⟨gb518, 0, none⟩ = some (.int .i64 a0_0) := (blk_cell BK518.out 0).trans rfl
      have hcz77_1 : wr.cell? ⟨gb518, 1, none⟩ = some (.slice A0_1 l0_1.length c0_1) := (blk_cell BK518.out 1).trans rfl
      have hfz77_0 := blk_frozen BK518.out 0
      have hfz77_1 := blk_frozen BK518.out 1
      go_wp2
      go_ret2
      exact ⟨re, bl HB.out⟩
     rw [if_neg c76] at H
     have c76b0 : decide (20000 < (wrap64 ((wrap64 (a0_0 - x5_2)) + x6_2))) = false := decide_eq_false c76
     clear c76
     simp only [Option.some.injEq, Prod.mk.injEq] at H
     obtain ⟨rfl, rfl⟩ := H
     have hcz78_0 : wr.cell? ⟨gb518, 0, none⟩ = some (.int .i64 a0_0) := (blk_cell BK518.out 0).trans rfl
     have hcz78_1 : wr.cell? ⟨gb518, 1, none⟩ = some (.slice A0_1 l0_1.length c0_1) := (blk_cell BK518.out 1).trans rfl
     have hfz78_0 := blk_frozen BK518.out 0
     have hfz78_1 := blk_frozen BK518.out 1
     go_wp2
     go_ret2
     exact ⟨re, bl HB.out⟩
def blotterref03_To.f (k : Nat) (a0_0 : Int) (l0_1 : List (S43)) : Option (Int × Int) := (blotterref03_measure.f k a0_0 l0_1).bind fun bt527 => (some (bt527.1, bt527.2))
theorem blotterref03_To.mono : ∀ a0 a1 k, LeO (blotterref03_To.f k a0 a1) (blotterref03_To.f (k + 1) a0 a1) := by
 intro a0 a1 k
 unfold blotterref03_To.f
 have m0 := @blotterref03_measure.mono; exact lo
def blotterref03_Right.f (k : Nat) (a0_0 : Int) (l0_1 : List (S43)) : Option (Int) := (blotterref03_measure.f k a0_0 l0_1).bind fun bt530 => (some bt530.2)
theorem blotterref03_Right.mono : ∀ a0 a1 k, LeO (blotterref03_Right.f k a0 a1) (blotterref03_Right.f (k + 1) a0 a1) := by
 intro a0 a1 k
 unfold blotterref03_Right.f
 have m0 := @blotterref03_measure.mono; exact lo
set_option maxHeartbeats 8000000 in
set_option maxRecDepth 100000 in
theorem blotterref03_Right.calls (k : Nat) (a0_0 : Int) (A0_1 : Option Addr) (c0_1 : Nat) (l0_1 : List (S43)) (r : Int) (w : World) (hr0_1 : Kd.C k43 w A0_1 l0_1.length l0_1) (hc0_1 : l0_1.length ≤ c0_1) (h : blotterref03_Right.f k a0_0 l0_1 = some r) :
 Calls Tryd.prog 54 #[.agg #[.int .i64 a0_0, .slice A0_1 l0_1.length c0_1]] w fun e w' => e = .returned (.int .i64 r) ∧ Below w.heap.size w w' := by
 have hu26 := Tryd.underlying26
 have HR0_1 := am hr0_1
 have HC0_1 := am hc0_1
 clear hr0_1 hc0_1
 have HB := am (Below.refl w.heap.size w)
 have H : ((blotterref03_measure.f k a0_0 l0_1).bind fun bt530 => (some bt530.2)) = some r := h
 clear h
 replace H := Option.bind_eq_some_iff.mp H
 obtain ⟨⟨t530, t531⟩, A20, H⟩ := H
 replace H : (some t531) = some r := H
 have A2 := am A20
 clear A20
 obtain rfl := Option.some.inj H
 go_enter Tryd.func54, Tryd.ntmps54
 go_wp2_with (first | ((with_reducible refine gate_dst (N := 1) rfl ?_); refine bev #[.int .i64 a0_0, .slice A0_1 l0_1.length c0_1] 26 ?_; intro gb529 hg w3 hbox hb; have BK529 := am (hbox); have GW529 := am (szl hg (bl HB.out)); have GE529 := am (szl hg (bl HB.out)); have HB := am (below_step (bl HB.out) hb); clear hb hbox hg; obtain ⟨hcz4_0, hcz4_1, hfz4_0, hfz4_1⟩ := bc2 BK529.out) | ((with_reducible refine gate_callee (f := 52) rfl ?_); refine goesL_ (some 7) rfl rfl Tryd.func52 (by kernel_rfl) rfl #[.agg #[.int .i64 a0_0, .slice A0_1 l0_1.length c0_1]] rfl (by (try simp only [List.map_toArray, List.map_cons, List.map_nil]); first | done | rfl | (simp only [List.length_drop, List.length_take]; rfl)) ?_; (with_reducible refine (blotterref03_measure.calls k a0_0 _ _ l0_1 t530 t531 _ ?side1 ?side2 A2.out).mono ?_); (case side1 => exact ks (Kd.C_below HR0_1.out HB.out)); (case side2 => exact HC0_1.out); rintro e w5 ⟨rfl, hb⟩; refine ⟨_, rfl, ?_⟩; have BK529 := am (blk_below (bk BK529.out) hb); have HB := am (below_step (bl HB.out) hb); (try clear hb); (try clear hb2); (try clear hk); (try clear hi)))
 go_ret
 exact ⟨re, bl HB.out⟩
end Go.Proofs.YtinbpjodheceoaaDoor.Sp
