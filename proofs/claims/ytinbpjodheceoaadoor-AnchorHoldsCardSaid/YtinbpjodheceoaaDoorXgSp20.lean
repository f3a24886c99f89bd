/- Written by this session's programs (sprint.py, prune.py). -/
import Derived.Test.YtinbpjodheceoaaDoorXgSp0
import Derived.Test.YtinbpjodheceoaaDoorXgSp3
import Derived.Test.YtinbpjodheceoaaDoorXgSp6
import Derived.Test.YtinbpjodheceoaaDoorXgSp9
namespace Go.Proofs.YtinbpjodheceoaaDoor.Sp
open Go.RowKit Go.Proofs.YtinbpjodheceoaaDoorW.PrintWords Go.Proofs.YtinbpjodheceoaaDoorW.PrintLast Go.Proofs.YtinbpjodheceoaaDoorW.PrintMore
attribute [local go_sem] max2_int min2_int max_two min_two max_three min_three max_four min_four   -- for this text's walks alone
set_option linter.unusedVariables false
set_option linter.unusedSimpArgs false
attribute [local go_sem] own_leq own_gtr own_geq   -- for this text's walks alone
def anchor_placed_1.f (a0 : Int) (c1 : Bool) (c2 : Int) : Option Bool := some (c1 && decide (a0 = c2))
set_option maxHeartbeats 1600000 in
theorem anchor_placed_1.calls (a0 : Int) (q1 : Nat) (c1 : Bool) (q2 : Nat) (c2 : Int) (r : Bool) (w : World) (hq1 : w.cell? ⟨q1, 0, none⟩ = some (.bool c1)) (hq2 : w.cell? ⟨q2, 0, none⟩ = some (.int .i64 c2)) (h : anchor_placed_1.f a0 c1 c2 = some r) :
 Calls Tryd.prog 66 #[.int .i64 a0, .pointer (some ⟨q1, 0, none⟩), .pointer (some ⟨q2, 0, none⟩)] w fun e w' => e = .returned (.bool r) ∧ Drawn0 w w' := by
 simp only [anchor_placed_1.f, Option.some.injEq] at h
 subst h
 cases c1 with
 | true =>
  go_enter Tryd.func66, Tryd.ntmps66
  go_wp2
  go_ret
  exact ⟨by first | rfl | (simp; done) | (simp; rfl), Drawn0.refl _⟩
 | false =>
  go_enter Tryd.func66, Tryd.ntmps66
  go_wp2
  go_ret
  exact ⟨by simp, Drawn0.refl _⟩
mutual
def anchor_shift__anchor_placed_1.l0 : Nat → Int → Int → Int → List (S43) → Int → Int → Bool → Int → Option (Int)
 | 0, _, _, _, _, _, _, _, _ => none
 | k + 1, x1, x7, x8, x12, x13, x14, x920, x921 => if x14 < x13 then (if 0 ≤ x14 then (if x14 < (x12.length : Int) then (if ((rd_T43 x12 x14).f0) = 2 then (if x7 < x1 then (anchor_shift__anchor_placed_1.j1 k x1 x7 x8 x12 x13 x14 true x920 x921 ((rd_T43 x12 x14).f0) ((rd_T43 x12 x14).f1) ((rd_T43 x12 x14).f2) ((rd_T43 x12 x14).f3)) else ((anchor_placed_1.f x7 x920 x921).bind fun t305 => (anchor_shift__anchor_placed_1.j1 k x1 x7 x8 x12 x13 x14 t305 x920 x921 ((rd_T43 x12 x14).f0) ((rd_T43 x12 x14).f1) ((rd_T43 x12 x14).f2) ((rd_T43 x12 x14).f3)))) else (if ((rd_T43 x12 x14).f0) = 1 then (anchor_shift__anchor_placed_1.l0 k x1 (wrap64 (x7 + ((rd_T43 x12 x14).f1))) (wrap64 (x8 + (mn ((rd_T43 x12 x14).f1) (mx (wrap64 (x1 - x7)) 0)))) x12 x13 (wrap64 (x14 + 1)) x920 x921) else (anchor_shift__anchor_placed_1.l0 k x1 (wrap64 (x7 + ((rd_T43 x12 x14).f1))) x8 x12 x13 (wrap64 (x14 + 1)) x920 x921))) else (none)) else (none)) else (some (wrap64 (x8 + (mx (wrap64 (x1 - x7)) 0))))
def anchor_shift__anchor_placed_1.j1 : Nat → Int → Int → Int → List (S43) → Int → Int → Bool → Bool → Int → Int → Int → ByteArray → List (S90) → Option (Int)
 | 0, _, _, _, _, _, _, _, _, _, _, _, _, _ => none
 | k + 1, x1, x7, x8, x12, x13, x14, x29, x920, x921, x305000, x305001, x305002, x305003 => if x29 = true then ((utf8_RuneCountInString.f x305002).bind fun t306 => (anchor_shift__anchor_placed_1.l0 k x1 (wrap64 (x7 + x305001)) (wrap64 (x8 + t306)) x12 x13 (wrap64 (x14 + 1)) x920 x921)) else (anchor_shift__anchor_placed_1.l0 k x1 (wrap64 (x7 + x305001)) x8 x12 x13 (wrap64 (x14 + 1)) x920 x921)
end
def anchor_shift__anchor_placed_1.f (k : Nat) (a0_0 : Int) (l0_1 : List (S43)) (a1 : Int) (a2_0 : Bool) (a2_1 : Int) : Option (Int) := anchor_shift__anchor_placed_1.l0 k a1 0 0 l0_1 (l0_1.length : Int) 0 a2_0 a2_1
theorem anchor_shift__anchor_placed_1.mono_l : ∀ k, (∀ y0 y1 y2 y3 y4 y5 y6 y7, LeO (anchor_shift__anchor_placed_1.l0 k y0 y1 y2 y3 y4 y5 y6 y7) (anchor_shift__anchor_placed_1.l0 (k + 1) y0 y1 y2 y3 y4 y5 y6 y7)) ∧ (∀ y0 y1 y2 y3 y4 y5 y6 y7 y8 y9 y10 y11 y12, LeO (anchor_shift__anchor_placed_1.j1 k y0 y1 y2 y3 y4 y5 y6 y7 y8 y9 y10 y11 y12) (anchor_shift__anchor_placed_1.j1 (k + 1) y0 y1 y2 y3 y4 y5 y6 y7 y8 y9 y10 y11 y12))
 | 0 => ⟨fun _ _ _ _ _ _ _ _ r h => by simp [anchor_shift__anchor_placed_1.l0] at h, fun _ _ _ _ _ _ _ _ _ _ _ _ _ r h => by simp [anchor_shift__anchor_placed_1.j1] at h⟩
 | k + 1 => by
  obtain ⟨ih0, ih1⟩ := anchor_shift__anchor_placed_1.mono_l k
  refine ⟨?_, ?_⟩
  ·intro y0 y1 y2 y3 y4 y5 y6 y7
   unfold anchor_shift__anchor_placed_1.l0
   exact lo
  intro y0 y1 y2 y3 y4 y5 y6 y7 y8 y9 y10 y11 y12
  unfold anchor_shift__anchor_placed_1.j1
  exact lo
theorem anchor_shift__anchor_placed_1.mono : ∀ a0 a1 a2 a3 a4 k, LeO (anchor_shift__anchor_placed_1.f k a0 a1 a2 a3 a4) (anchor_shift__anchor_placed_1.f (k + 1) a0 a1 a2 a3 a4) := by
 intro a0 a1 a2 a3 a4 k
 obtain ⟨ih0, ih1⟩ := anchor_shift__anchor_placed_1.mono_l k
 unfold anchor_shift__anchor_placed_1.f
 exact lo
set_option maxHeartbeats 8000000 in
set_option maxRecDepth 100000 in
theorem anchor_shift__anchor_placed_1.calls (k : Nat) (a0_0 : Int) (A0_1 : Option Addr) (c0_1 : Nat) (l0_1 : List (S43)) (a1 : Int) (q2_0 : Nat) (a2_0 : Bool) (q2_1 : Nat) (a2_1 : Int) (r : Int) (w : World) (hr0_1 : Kd.C k43 w A0_1 l0_1.length l0_1) (hc0_1 : l0_1.length ≤ c0_1) (hq2_0 : w.cell? ⟨q2_0, 0, none⟩ = some (.bool a2_0)) (hq2_1 : w.cell? ⟨q2_1, 0, none⟩ = some (.int .i64 a2_1)) (h : anchor_shift__anchor_placed_1.f k a0_0 l0_1 a1 a2_0 a2_1 = some r) :
 Calls Tryd.prog 65 #[.agg #[.int .i64 a0_0, .slice A0_1 l0_1.length c0_1], .int .i64 a1, .func (.func (66 : Nat)) #[] #[.pointer (some ⟨q2_0, 0, none⟩), .pointer (some ⟨q2_1, 0, none⟩)]] w fun e w' => e = .returned (.int .i64 r) ∧ Below w.heap.size w w' := by
 have hu26 := Tryd.underlying26
 have hu43 := Tryd.underlying43
 have HQ2_0 := am hq2_0
 clear hq2_0
 have HQ2_1 := am hq2_1
 clear hq2_1
 have HR0_1 := am hr0_1
 have HC0_1 := am hc0_1
 clear hr0_1 hc0_1
 have HB := am (Below.refl w.heap.size w)
 have H : (anchor_shift__anchor_placed_1.l0 k a1 0 0 l0_1 (l0_1.length : Int) 0 a2_0 a2_1) = some r := h
 clear h
 have H' := am H
 clear H
 go_enter Tryd.func65, Tryd.ntmps65
 go_wp2_with (first | ((with_reducible refine gate_dst (N := 3) rfl ?_); refine bev #[.int .i64 a0_0, .slice A0_1 l0_1.length c0_1] 26 ?_; intro gb302 hg w4 hbox hb; have BK302 := am (hbox); have GW302 := am (szl hg (bl HB.out)); have GE302 := am (szl hg (bl HB.out)); have HB := am (below_step (bl HB.out) hb); clear hb hbox hg; obtain ⟨hcz5_0, hcz5_1, hfz5_0, hfz5_1⟩ := bc2 BK302.out))
 go_loopg [7, 8, 14] k (fun kq v7 v8 v14 w' => ∃ (x7_1 : Int) (x8_1 : Int) (x14_1 : Int), v7 = .int .i64 x7_1 ∧ v8 = .int .i64 x8_1 ∧ v14 = .int .i64 x14_1 ∧ Aside0 (anchor_shift__anchor_placed_1.l0 kq a1 x7_1 x8_1 l0_1 (l0_1.length : Int) x14_1 a2_0 a2_1 = some r) ∧ Aside0 (kq ≤ k) ∧ Aside0 (w'.heap[gb302]? = some (.cells #[.int .i64 a0_0, (.slice A0_1 l0_1.length c0_1)] 26 (0, 0))) ∧ Aside0 (Below w.heap.size w w'))
 case atStart => exact ⟨(0), (0), (0), (rs), (rs), (rs), H', ⟨Nat.le_refl _⟩, ⟨bk BK302.out⟩, ⟨bl HB.out⟩⟩
 case round =>
  clear H'
  try clear p2; try clear q2; try clear hcz5_0; try clear hcz5_1; try clear hfz5_0; try clear hfz5_1
  obtain ⟨x7_1, x8_1, x14_1, rfl, rfl, rfl, HA, HK1, BK302, HB⟩ := hrel
  cases gk with
  | zero => exact absurd HA.out (by simp [anchor_shift__anchor_placed_1.l0])
  | succ k1 =>
   have H := HA.out
   clear HA
   simp only [anchor_shift__anchor_placed_1.l0] at H
   by_cases c6 : x14_1 < (l0_1.length : Int)
   ·rw [if_pos c6] at H
    have c6b0 : decide (x14_1 < (l0_1.length : Int)) = true := decide_eq_true c6
    clear c6
    by_cases c7 : 0 ≤ x14_1
    ·rw [if_pos c7] at H
     have c7b0 : decide (0 ≤ x14_1) = true := decide_eq_true c7
     clear c7
     by_cases c8 : x14_1 < (l0_1.length : Int)
     ·rw [if_pos c8] at H
      have c8b0 : decide (x14_1 < (l0_1.length : Int)) = true := decide_eq_true c8
      clear c8
      by_cases c9 : ((rd_T43 l0_1 x14_1).f0) = 2
      ·rw [if_pos c9] at H
       have c9b0 : (((rd_T43 l0_1 x14_1).f0) == 2) = true := beq_iff_eq.mpr c9
       have c9b1 : (((rd_T43 l0_1 x14_1).f0) != 2) = false := bne_eq_false_iff_eq.mpr c9
       clear c9
       have HC10 := am H
       clear H
       have p303 : 0 ≤ (x14_1 : Int) := oda
       have q303 : x14_1 < (l0_1.length : Int) := oda
       obtain ⟨ad303, A303_3, c303_3, e303, hx303_0, hx303_1, hx303_2, hx303_3, hl303_3, hi303_3⟩ := at_T43 HR0_1.out x14_1 p303 q303
       cases e303
       replace hx303_0 := hbc HB hx303_0
       replace hx303_1 := hbc HB hx303_1
       replace hx303_2 := hbc HB hx303_2
       replace hx303_3 := hbc HB hx303_3
       have HR303_3 := am hi303_3
       have HC303_3 := am hl303_3
       clear hi303_3 hl303_3
       replace p303 := eq_true p303
       replace q303 := eq_true q303
       go_upto_region 7 with (first | ((with_reducible refine gate_dst (N := 10) rfl ?_); refine bev #[.int .i64 0, .int .i64 0, .string (⟨#[]⟩ : ByteArray), .slice none 0 0] 43 ?_; intro gb304 hg w11 hbox hb; have BK304 := am (hbox); have GW304 := am (szl hg (bl HB.out)); have GE304 := am (szl hg (bl HB.out)); have HB := am (below_step (bl HB.out) hb); have NB302_304 := am (nel hg (bk BK302.out)); have NB304_302 := am (neg_ hg (bk BK302.out)); have BK302 := am (blk_below (bk BK302.out) hb); clear hb hbox hg; have hnb12 := NB304_302.out; have hnc12 := NB302_304.out; obtain ⟨hcz13_0, hcz13_1, hcz13_2, hcz13_3, hfz13_0, hfz13_1, hfz13_2, hfz13_3⟩ := bc4 BK304.out))
       (try simp only [Act.put, List.setIfInBounds_toArray, List.set_cons_zero, List.set_cons_succ])
       go_cut [29] (fun v29 wc => ∃ (kq : Nat) (x29_9 : Bool), v29 = .bool x29_9 ∧ Aside0 (anchor_shift__anchor_placed_1.j1 kq a1 x7_1 x8_1 l0_1 (l0_1.length : Int) x14_1 x29_9 a2_0 a2_1 ((rd_T43 l0_1 x14_1).f0) ((rd_T43 l0_1 x14_1).f1) ((rd_T43 l0_1 x14_1).f2) ((rd_T43 l0_1 x14_1).f3) = some r) ∧ Aside0 (kq ≤ k1) ∧ Aside0 (wc.heap[gb302]? = some (.cells #[.int .i64 a0_0, (.slice (some ad303) l0_1.length c0_1)] 26 (0, 0))) ∧ Aside0 (wc.heap[gb304]? = some (.cells #[.int .i64 ((rd_T43 l0_1 x14_1).f0), .int .i64 ((rd_T43 l0_1 x14_1).f1), .string ((rd_T43 l0_1 x14_1).f2), (.slice A303_3 ((rd_T43 l0_1 x14_1).f3).length c303_3)] 43 (0, 0))) ∧ Aside0 (Below w.heap.size w wc))
       case first =>
        have H := HC10.out
        clear HC10
        by_cases c14 : x7_1 < a1
        ·rw [if_pos c14] at H
         have c14b0 : decide (x7_1 < a1) = true := decide_eq_true c14
         clear c14
         (first | rw [c14b0] | (simp only [i64_w, i32_w]; rw [c14b0]) | skip)
         have H' := am H
         clear H
         go_wp2
         go_meet
         case rel => exact ⟨_, (true), (rs), H', ⟨by have := HK1.out; first | omega | exact Nat.le_refl _⟩, ⟨bk BK302.out⟩, ⟨bp BK304.out⟩, ⟨bl HB.out⟩⟩
        rw [if_neg c14] at H
        have c14b0 : decide (x7_1 < a1) = false := decide_eq_false c14
        clear c14
        (first | rw [c14b0] | (simp only [i64_w, i32_w]; rw [c14b0]) | skip)
        replace H := Option.bind_eq_some_iff.mp H
        obtain ⟨t305, A150, H⟩ := H
        replace H : (anchor_shift__anchor_placed_1.j1 k1 a1 x7_1 x8_1 l0_1 (l0_1.length : Int) x14_1 t305 a2_0 a2_1 ((rd_T43 l0_1 x14_1).f0) ((rd_T43 l0_1 x14_1).f1) ((rd_T43 l0_1 x14_1).f2) ((rd_T43 l0_1 x14_1).f3)) = some r := H
        have A15 := am A150
        clear A150
        have H' := am H
        clear H
        go_wp2_with (first | (go_at_call 66; (with_reducible refine (anchor_placed_1.calls x7_1 q2_0 a2_0 q2_1 a2_1 t305 _ ?side1 ?side2 A15.out).mono ?_); (case side1 => exact pw_cell_below (bl HB.out) HQ2_0.out); (case side2 => exact pw_cell_below (bl HB.out) HQ2_1.out); rintro e w' ⟨rfl, ⟨nd, rfl⟩⟩))
        go_meet
        case rel => exact ⟨_, (t305), (rs), H', ⟨by have := HK1.out; first | omega | exact Nat.le_refl _⟩, ⟨bk BK302.out⟩, ⟨bp BK304.out⟩, ⟨bl HB.out⟩⟩
       case rest =>
        clear HC10
        try clear c1; try clear p2; try clear q2; try clear c3; try clear p3; try clear q3; try clear hx3; try clear c6; try clear c6b0; try clear c7; try clear c7b0; try clear c8; try clear c8b0; try clear c9; try clear c9b0; try clear c9b1; try clear c12; try clear c14; try clear c14b0; try clear hcz13_0; try clear hcz13_1; try clear hcz13_2; try clear hcz13_3; try clear hcz5_0; try clear hcz5_1; try clear hfz13_0; try clear hfz13_1; try clear hfz13_2; try clear hfz13_3; try clear hfz5_0; try clear hfz5_1; try clear hx303_0; try clear hx303_1; try clear hx303_2; try clear hx303_3; try clear p2; try clear p303; try clear q2; try clear q303
        obtain ⟨kq, x29_9, rfl, HA, HJ9, BK302, BK304, HB⟩ := hcut
        cases kq with
        | zero => exact absurd HA.out (by simp [anchor_shift__anchor_placed_1.j1])
        | succ kj9 =>
         have H := HA.out
         clear HA
         simp only [anchor_shift__anchor_placed_1.j1] at H
         by_cases c16 : x29_9 = true
         ·subst c16
          have H1 : ((utf8_RuneCountInString.f ((rd_T43 l0_1 x14_1).f2)).bind fun t306 => (anchor_shift__anchor_placed_1.l0 kj9 a1 (wrap64 (x7_1 + ((rd_T43 l0_1 x14_1).f1))) (wrap64 (x8_1 + t306)) l0_1 (l0_1.length : Int) (wrap64 (x14_1 + 1)) a2_0 a2_1)) = some r := by rw [if_pos rfl] at H; exact H
          clear H
          have H := H1
          clear H1
          replace H := Option.bind_eq_some_iff.mp H
          obtain ⟨t306, A170, H⟩ := H
          replace H : (anchor_shift__anchor_placed_1.l0 kj9 a1 (wrap64 (x7_1 + ((rd_T43 l0_1 x14_1).f1))) (wrap64 (x8_1 + t306)) l0_1 (l0_1.length : Int) (wrap64 (x14_1 + 1)) a2_0 a2_1) = some r := H
          have A17 := am A170
          clear A170
          have H' := am H
          clear H
          have hnb18 := NB304_302.out
          have hnc18 := NB302_304.out
          have hcz19_0 : wc.cell? ⟨gb304, 0, none⟩ = some (.int .i64 ((rd_T43 l0_1 x14_1).f0)) := (blk_cell BK304.out 0).trans rfl
          have hcz19_1 : wc.cell? ⟨gb304, 1, none⟩ = some (.int .i64 ((rd_T43 l0_1 x14_1).f1)) := (blk_cell BK304.out 1).trans rfl
          have hcz19_2 : wc.cell? ⟨gb304, 2, none⟩ = some (.string ((rd_T43 l0_1 x14_1).f2)) := (blk_cell BK304.out 2).trans rfl
          have hcz19_3 : wc.cell? ⟨gb304, 3, none⟩ = some (.slice A303_3 ((rd_T43 l0_1 x14_1).f3).length c303_3) := (blk_cell BK304.out 3).trans rfl
          have hfz19_0 := blk_frozen BK304.out 0
          have hfz19_1 := blk_frozen BK304.out 1
          have hfz19_2 := blk_frozen BK304.out 2
          have hfz19_3 := blk_frozen BK304.out 3
          go_wp2_with (first | ((with_reducible refine gate_callee (f := 73) rfl ?_); refine goesL_ (some 33) rfl rfl Tryd.func73 (by kernel_rfl) rfl #[.string ((rd_T43 l0_1 x14_1).f2)] rfl (by (try simp only [List.map_toArray, List.map_cons, List.map_nil]); first | done | rfl | (simp only [List.length_drop, List.length_take]; rfl)) ?_; (with_reducible refine (utf8_RuneCountInString.calls ((rd_T43 l0_1 x14_1).f2) t306 _ A17.out).mono ?_); rintro e w20 ⟨rfl, hb⟩; refine ⟨_, rfl, ?_⟩; have BK302 := am (blk_below (bk BK302.out) hb); have BK304 := am (blk_below (bk BK304.out) hb); have HB := am (below_step (bl HB.out) hb); (try clear hb); (try clear hb2); (try clear hk); (try clear hi); obtain ⟨hcz21_0, hcz21_1, hcz21_2, hcz21_3, hfz21_0, hfz21_1, hfz21_2, hfz21_3⟩ := bc4 BK304.out))
          go_roundg kj9
          case measure => have := HK1.out; have := HJ9.out; omega
          case rel => exact ⟨(wrap64 (x7_1 + ((rd_T43 l0_1 x14_1).f1))), (wrap64 (x8_1 + t306)), (wrap64 (x14_1 + 1)), (rs), (rs), (rs), H', ⟨by have := HK1.out; have := HJ9.out; omega⟩, ⟨bk BK302.out⟩, ⟨bl HB.out⟩⟩
         replace c16 := Bool.eq_false_iff.mpr c16
         subst c16
         have H1 : (anchor_shift__anchor_placed_1.l0 kj9 a1 (wrap64 (x7_1 + ((rd_T43 l0_1 x14_1).f1))) x8_1 l0_1 (l0_1.length : Int) (wrap64 (x14_1 + 1)) a2_0 a2_1) = some r := by rw [if_neg (show ¬ (false = true) by decide)] at H; exact H
         clear H
         have H := H1
         clear H1
         have H' := am H
         clear H
         have hnb22 := NB304_302.out
         have hnc22 := NB302_304.out
         have hcz23_0 : wc.cell? ⟨gb304, 0, none⟩ = some (.int .i64 ((rd_T43 l0_1 x14_1).f0)) := (blk_cell BK304.out 0).trans rfl
         have hcz23_1 : wc.cell? ⟨gb304, 1, none⟩ = some (.int .i64 ((rd_T43 l0_1 x14_1).f1)) := (blk_cell BK304.out 1).trans rfl
         have hcz23_2 : wc.cell? ⟨gb304, 2, none⟩ = some (.string ((rd_T43 l0_1 x14_1).f2)) := (blk_cell BK304.out 2).trans rfl
         have hcz23_3 : wc.cell? ⟨gb304, 3, none⟩ = some (.slice A303_3 ((rd_T43 l0_1 x14_1).f3).length c303_3) := (blk_cell BK304.out 3).trans rfl
         have hfz23_0 := blk_frozen BK304.out 0
         have hfz23_1 := blk_frozen BK304.out 1
         have hfz23_2 := blk_frozen BK304.out 2
         have hfz23_3 := blk_frozen BK304.out 3
         go_wp2
         go_roundg kj9
         case measure => have := HK1.out; have := HJ9.out; omega
         case rel => exact ⟨(wrap64 (x7_1 + ((rd_T43 l0_1 x14_1).f1))), (x8_1), (wrap64 (x14_1 + 1)), (rs), (rs), (rs), H', ⟨by have := HK1.out; have := HJ9.out; omega⟩, ⟨bk BK302.out⟩, ⟨bl HB.out⟩⟩
      rw [if_neg c9] at H
      have c9b0 : (((rd_T43 l0_1 x14_1).f0) == 2) = false := beq_eq_false_iff_ne.mpr c9
      have c9b1 : (((rd_T43 l0_1 x14_1).f0) != 2) = true := bne_iff_ne.mpr c9
      by_cases c24 : ((rd_T43 l0_1 x14_1).f0) = 1
      ·rw [if_pos c24] at H
       have c24b0 : (((rd_T43 l0_1 x14_1).f0) == 1) = true := beq_iff_eq.mpr c24
       have c24b1 : (((rd_T43 l0_1 x14_1).f0) != 1) = false := bne_eq_false_iff_eq.mpr c24
       clear c24
       obtain ⟨ji25, hji25⟩ : ∃ j_ : Int, (mx (wrap64 (a1 - x7_1)) 0) = j_ := ⟨_, rfl⟩
       replace H : (anchor_shift__anchor_placed_1.l0 k1 a1 (wrap64 (x7_1 + ((rd_T43 l0_1 x14_1).f1))) (wrap64 (x8_1 + (mn ((rd_T43 l0_1 x14_1).f1) (ji25)))) l0_1 (l0_1.length : Int) (wrap64 (x14_1 + 1)) a2_0 a2_1) = some r := by first | (rw [hji25] at H; exact H) | (simp only [hji25] at H ⊢; exact H)
       have hji25_ : (if (wrap64 (a1 - x7_1)) < 0 then 0 else (wrap64 (a1 - x7_1))) = ji25 := hji25
       obtain ⟨ji26, hji26⟩ : ∃ j_ : Int, (mn ((rd_T43 l0_1 x14_1).f1) (ji25)) = j_ := ⟨_, rfl⟩
       replace H : (anchor_shift__anchor_placed_1.l0 k1 a1 (wrap64 (x7_1 + ((rd_T43 l0_1 x14_1).f1))) (wrap64 (x8_1 + (ji26))) l0_1 (l0_1.length : Int) (wrap64 (x14_1 + 1)) a2_0 a2_1) = some r := by first | (rw [hji26] at H; exact H) | (simp only [hji26] at H ⊢; exact H)
       have hji26_ : (if (ji25) < ((rd_T43 l0_1 x14_1).f1) then (ji25) else ((rd_T43 l0_1 x14_1).f1)) = ji26 := hji26
       have H' := am H
       clear H
       have p303 : 0 ≤ (x14_1 : Int) := oda
       have q303 : x14_1 < (l0_1.length : Int) := oda
       obtain ⟨ad303, A303_3, c303_3, e303, hx303_0, hx303_1, hx303_2, hx303_3, hl303_3, hi303_3⟩ := at_T43 HR0_1.out x14_1 p303 q303
       cases e303
       replace hx303_0 := hbc HB hx303_0
       replace hx303_1 := hbc HB hx303_1
       replace hx303_2 := hbc HB hx303_2
       replace hx303_3 := hbc HB hx303_3
       have HR303_3 := am hi303_3
       have HC303_3 := am hl303_3
       clear hi303_3 hl303_3
       replace p303 := eq_true p303
       replace q303 := eq_true q303
       go_wp2_with (first | ((with_reducible refine gate_dst (N := 10) rfl ?_); refine bev #[.int .i64 0, .int .i64 0, .string (⟨#[]⟩ : ByteArray), .slice none 0 0] 43 ?_; intro gb304 hg w27 hbox hb; have BK304 := am (hbox); have GW304 := am (szl hg (bl HB.out)); have GE304 := am (szl hg (bl HB.out)); have HB := am (below_step (bl HB.out) hb); have NB302_304 := am (nel hg (bk BK302.out)); have NB304_302 := am (neg_ hg (bk BK302.out)); have BK302 := am (blk_below (bk BK302.out) hb); clear hb hbox hg; have hnb28 := NB304_302.out; have hnc28 := NB302_304.out; obtain ⟨hcz29_0, hcz29_1, hcz29_2, hcz29_3, hfz29_0, hfz29_1, hfz29_2, hfz29_3⟩ := bc4 BK304.out))
       go_roundg k1
       case measure => have := HK1.out; omega
       case rel => exact ⟨(wrap64 (x7_1 + ((rd_T43 l0_1 x14_1).f1))), (wrap64 (x8_1 + (ji26))), (wrap64 (x14_1 + 1)), (rs), (by first | rfl | (simp; done) | (simp only [← hji26] <;> (first | rfl | simp)) | (simp [*]; done)), (rs), H', ⟨by have := HK1.out; omega⟩, ⟨bk BK302.out⟩, ⟨bl HB.out⟩⟩
      rw [if_neg c24] at H
      have c24b0 : (((rd_T43 l0_1 x14_1).f0) == 1) = false := beq_eq_false_iff_ne.mpr c24
      have c24b1 : (((rd_T43 l0_1 x14_1).f0) != 1) = true := bne_iff_ne.mpr c24
      have H' := am H
      clear H
      have p303 : 0 ≤ (x14_1 : Int) := oda
      have q303 : x14_1 < (l0_1.length : Int) := oda
      obtain ⟨ad303, A303_3, c303_3, e303, hx303_0, hx303_1, hx303_2, hx303_3, hl303_3, hi303_3⟩ := at_T43 HR0_1.out x14_1 p303 q303
      cases e303
      replace hx303_0 := hbc HB hx303_0
      replace hx303_1 := hbc HB hx303_1
      replace hx303_2 := hbc HB hx303_2
      replace hx303_3 := hbc HB hx303_3
      have HR303_3 := am hi303_3
      have HC303_3 := am hl303_3
      clear hi303_3 hl303_3
      replace p303 := eq_true p303
      replace q303 := eq_true q303
      go_wp2_with (first | ((with_reducible refine gate_dst (N := 10) rfl ?_); refine bev #[.int .i64 0, .int .i64 0, .string (⟨#[]⟩ : ByteArray), .slice none 0 0] 43 ?_; intro gb304 hg w30 hbox hb; have BK304 := am (hbox); have GW304 := am (szl hg (bl HB.out)); have GE304 := am (szl hg (bl HB.out)); have HB := am (below_step (bl HB.out) hb); have NB302_304 := am (nel hg (bk BK302.out)); have NB304_302 := am (neg_ hg (bk BK302.out)); have BK302 := am (blk_below (bk BK302.out) hb); clear hb hbox hg; have hnb31 := NB304_302.out; have hnc31 := NB302_304.out; obtain ⟨hcz32_0, hcz32_1, hcz32_2, hcz32_3, hfz32_0, hfz32_1, hfz32_2, hfz32_3⟩ := bc4 BK304.out))
      go_roundg k1
      case measure => have := HK1.out; omega
      case rel => exact ⟨(wrap64 (x7_1 + ((rd_T43 l0_1 x14_1).f1))), (x8_1), (wrap64 (x14_1 + 1)), (rs), (rs), (rs), H', ⟨by have := HK1.out; omega⟩, ⟨bk BK302.out⟩, ⟨bl HB.out⟩⟩
     rw [if_neg c8] at H
     exact absurd H (by simp)
    rw [if_neg c7] at H
    exact absurd H (by simp)
   rw [if_neg c6] at H
   have c6b0 : decide (x14_1 < (l0_1.length : Int)) = false := decide_eq_false c6
   clear c6
   obtain ⟨ji33, hji33⟩ : ∃ j_ : Int, (mx (wrap64 (a1 - x7_1)) 0) = j_ := ⟨_, rfl⟩
   replace H : (some (wrap64 (x8_1 + (ji33)))) = some r := by first | (rw [hji33] at H; exact H) | (simp only [hji33] at H ⊢; exact H)
   have hji33_ : (if (wrap64 (a1 - x7_1)) < 0 then 0 else (wrap64 (a1 - x7_1))) = ji33 := hji33
   obtain rfl := Option.some.inj H
   go_wp2
   go_ret
   exact ⟨by first | rfl | (simp [ne_nil_b, eq_nil_b]; done) | (simp [errW_none, errW_some] <;> rfl) | (simp only [← hji33]; first | rfl | (simp [errW_none, errW_some] <;> rfl)) | (simp [*, errW_none, errW_some] <;> rfl), bl HB.out⟩
def anchor_placed.f (k : Nat) (a0_0 : Int) (l0_1 : List (S43)) (a1 : Int) (a2 : Bool) : Option (Int × Int) := (change_Normal.f k a0_0 l0_1).bind fun n => if n.2.2 = 0 then (if a1 < 0 then some (0, 1) else if a1 > a0_0 then some (0, 1) else (anchor_shift__anchor_placed_1.f k n.1 n.2.1 a1 a2 a1).bind fun t => some (t, 0)) else some (0, n.2.2)
theorem anchor_placed.mono : ∀ a0 a1 a2 a3 k, LeO (anchor_placed.f k a0 a1 a2 a3) (anchor_placed.f (k + 1) a0 a1 a2 a3) := by
 intro a0 a1 a2 a3 k
 unfold anchor_placed.f
 have m0 := @change_Normal.mono; have m1 := @anchor_shift__anchor_placed_1.mono; exact lo
set_option maxHeartbeats 4000000 in
set_option maxRecDepth 100000 in
theorem anchor_placed.calls (k : Nat) (a0_0 : Int) (A0_1 : Option Addr) (c0_1 : Nat) (l0_1 : List (S43)) (a1 : Int) (a2 : Bool) (r1 : Int) (r2 : Int) (w : World) (hr0_1 : Kd.C k43 w A0_1 l0_1.length l0_1) (hc0_1 : l0_1.length ≤ c0_1) (hT_ : Tabs w) (h : anchor_placed.f k a0_0 l0_1 a1 a2 = some (r1, r2)) :
 Calls Tryd.prog 43 #[.agg #[.int .i64 a0_0, .slice A0_1 l0_1.length c0_1], .int .i64 a1, .bool a2] w fun e w' => e = .returned (.tuple #[.int .i64 r1, .int .i64 r2]) ∧ Below w.heap.size w w' := by
 have hmf : ∀ (fn : Fn) (first cap : Array Value) (w : World), (Instr.makeFunc fn first cap).run Tryd.prog w = .ok (.func fn first cap) w := fun _ _ _ _ => rfl
 have hu26 := Tryd.underlying26
 obtain ⟨wb, hwb⟩ : ∃ wb, wb = ((w.alloc (.cells #[.int .i64 a0_0, .slice A0_1 l0_1.length c0_1] 26)).alloc (.cells #[.int .i64 a1] 3)).alloc (.cells #[.bool a2] 4) := ⟨_, rfl⟩
 have B0 : Below w.heap.size w wb := by rw [hwb]; exact below_alloc (below_alloc (below_alloc (Below.refl _ _) _) _) _
 have k0 : wb.heap[w.heap.size]? = some (.cells #[.int .i64 a0_0, .slice A0_1 l0_1.length c0_1] 26 (0, 0)) := by
  rw [hwb]; exact blk_alloc (blk_alloc (heap_alloc_new w _) _) _
 have k1 : wb.heap[w.heap.size + 1]? = some (.cells #[.int .i64 a1] 3 (0, 0)) := by
  rw [hwb]; exact blk_alloc (by simpa using heap_alloc_new (w.alloc (.cells #[.int .i64 a0_0, .slice A0_1 l0_1.length c0_1] 26)) (.cells #[.int .i64 a1] 3)) _
 have k2 : wb.heap[w.heap.size + 2]? = some (.cells #[.bool a2] 4 (0, 0)) := by
  rw [hwb]; simpa using heap_alloc_new ((w.alloc (.cells #[.int .i64 a0_0, .slice A0_1 l0_1.length c0_1] 26)).alloc (.cells #[.int .i64 a1] 3)) (.cells #[.bool a2] 4)
 have HWB := am hwb
 have HB0 := am B0
 have K0 := am k0
 have K1 := am k1
 have K2 := am k2
 have HR := am hr0_1
 have HC := am hc0_1
 have HT := am hT_
 clear hwb B0 k0 k1 k2 hr0_1 hc0_1 hT_
 have H := h
 clear h
 unfold anchor_placed.f at H
 obtain ⟨⟨n1, n2, n3⟩, A1_, H⟩ := Option.bind_eq_some_iff.mp H
 have HA := am A1_
 clear A1_
 by_cases e3 : n3 = 0
 ·subst e3
  rw [if_pos rfl] at H
  by_cases c1 : a1 < 0
  ·rw [if_pos c1] at H
   simp only [Option.some.injEq, Prod.mk.injEq] at H
   obtain ⟨rfl, rfl⟩ := H
   have d1 : decide (a1 < 0) = true := decide_eq_true c1
   clear c1
   go_enter Tryd.func43, Tryd.ntmps43
   go_wp2_with (fail)
   rw [← HWB.out]
   refine (change_Normal.calls k a0_0 A0_1 c0_1 l0_1 n1 n2 0 wb (Kd.C_below HR.out HB0.out) HC.out (Tabs.below HT.out HB0.out) HA.out).mono ?_
   rintro e w1 ⟨v1, rfl, hv, hb1⟩
   have HB1 := am (below_step HB0.out hb1)
   have KK0 := am (blk_below K0.out hb1)
   have KK1 := am (blk_below K1.out hb1)
   have KK2 := am (blk_below K2.out hb1)
   obtain ⟨A2, c2, rfl, hl2, hF2⟩ := hv
   have HF2 := am hF2
   have HL2 := am hl2
   clear hF2 hl2 hb1
   have hz0 : (w1.alloc (.cells #[.int .i64 n1, .slice A2 n2.length c2] 26)).cell? ⟨w.heap.size, 0, none⟩ = some (.int .i64 a0_0) := pw_cell_below (below_alloc (Below.refl _ _) _) ((blk_cell KK0.out 0).trans rfl)
   have hz1 : (w1.alloc (.cells #[.int .i64 n1, .slice A2 n2.length c2] 26)).cell? ⟨w.heap.size + 1, 0, none⟩ = some (.int .i64 a1) := pw_cell_below (below_alloc (Below.refl _ _) _) ((blk_cell KK1.out 0).trans rfl)
   go_wp2
   go_ret2
   exact ⟨rfl, by repeat (first | exact HB1.out | apply below_alloc | apply pw_below_drewN | apply below_drew1 | refine below_set ?_ (HB1.out.size))⟩
  rw [if_neg c1] at H
  have d1 : decide (a1 < 0) = false := decide_eq_false c1
  by_cases c2_ : a1 > a0_0
  ·rw [if_pos c2_] at H
   simp only [Option.some.injEq, Prod.mk.injEq] at H
   obtain ⟨rfl, rfl⟩ := H
   have d2 : decide (a0_0 < a1) = true := decide_eq_true c2_
   clear c1 c2_
   go_enter Tryd.func43, Tryd.ntmps43
   go_wp2_with (fail)
   rw [← HWB.out]
   refine (change_Normal.calls k a0_0 A0_1 c0_1 l0_1 n1 n2 0 wb (Kd.C_below HR.out HB0.out) HC.out (Tabs.below HT.out HB0.out) HA.out).mono ?_
   rintro e w1 ⟨v1, rfl, hv, hb1⟩
   have HB1 := am (below_step HB0.out hb1)
   have KK0 := am (blk_below K0.out hb1)
   have KK1 := am (blk_below K1.out hb1)
   have KK2 := am (blk_below K2.out hb1)
   obtain ⟨A2, c2, rfl, hl2, hF2⟩ := hv
   have HF2 := am hF2
   have HL2 := am hl2
   clear hF2 hl2 hb1
   have hz0 : (w1.alloc (.cells #[.int .i64 n1, .slice A2 n2.length c2] 26)).cell? ⟨w.heap.size, 0, none⟩ = some (.int .i64 a0_0) := pw_cell_below (below_alloc (Below.refl _ _) _) ((blk_cell KK0.out 0).trans rfl)
   have hz1 : (w1.alloc (.cells #[.int .i64 n1, .slice A2 n2.length c2] 26)).cell? ⟨w.heap.size + 1, 0, none⟩ = some (.int .i64 a1) := pw_cell_below (below_alloc (Below.refl _ _) _) ((blk_cell KK1.out 0).trans rfl)
   go_wp2
   go_ret2
   exact ⟨rfl, by repeat (first | exact HB1.out | apply below_alloc | apply pw_below_drewN | apply below_drew1 | refine below_set ?_ (HB1.out.size))⟩
  rw [if_neg c2_] at H
  obtain ⟨t, A2_, H⟩ := Option.bind_eq_some_iff.mp H
  simp only [Option.some.injEq, Prod.mk.injEq] at H
  obtain ⟨rfl, rfl⟩ := H
  have HS := am A2_
  have d2 : decide (a0_0 < a1) = false := decide_eq_false (by omega)
  clear A2_ c1 c2_
  go_enter Tryd.func43, Tryd.ntmps43
  go_wp2_with (fail)
  rw [← HWB.out]
  refine (change_Normal.calls k a0_0 A0_1 c0_1 l0_1 n1 n2 0 wb (Kd.C_below HR.out HB0.out) HC.out (Tabs.below HT.out HB0.out) HA.out).mono ?_
  rintro e w1 ⟨v1, rfl, hv, hb1⟩
  have HB1 := am (below_step HB0.out hb1)
  have KK0 := am (blk_below K0.out hb1)
  have KK1 := am (blk_below K1.out hb1)
  have KK2 := am (blk_below K2.out hb1)
  obtain ⟨A2, c2, rfl, hl2, hF2⟩ := hv
  have HF2 := am hF2
  have HL2 := am hl2
  clear hF2 hl2 hb1
  have hz0 : (w1.alloc (.cells #[.int .i64 n1, .slice A2 n2.length c2] 26)).cell? ⟨w.heap.size, 0, none⟩ = some (.int .i64 a0_0) := pw_cell_below (below_alloc (Below.refl _ _) _) ((blk_cell KK0.out 0).trans rfl)
  have hz1 : (w1.alloc (.cells #[.int .i64 n1, .slice A2 n2.length c2] 26)).cell? ⟨w.heap.size + 1, 0, none⟩ = some (.int .i64 a1) := pw_cell_below (below_alloc (Below.refl _ _) _) ((blk_cell KK1.out 0).trans rfl)
  go_wp2_with (fail)
  refine (anchor_shift__anchor_placed_1.calls k n1 A2 c2 n2 a1 (w.heap.size + 2) a2 (w.heap.size + 1) a1 t _ (Kd.C_below (Kd.F_now HF2.out) (below_alloc (Below.refl _ _) _)) HL2.out (pw_cell_below (below_alloc (Below.refl _ _) _) ((blk_cell KK2.out 0).trans rfl)) hz1 HS.out).mono ?_
  rintro e w2 ⟨rfl, hb2⟩
  have HB2 := am (below_step (below_alloc HB1.out _) hb2)
  clear hb2
  go_wp2
  go_ret2
  exact ⟨rfl, HB2.out⟩
 rw [if_neg e3] at H
 simp only [Option.some.injEq, Prod.mk.injEq] at H
 obtain ⟨rfl, rfl⟩ := H
 have d3 : (n3 != 0) = true := bne_iff_ne.mpr e3
 clear e3
 go_enter Tryd.func43, Tryd.ntmps43
 go_wp2_with (fail)
 rw [← HWB.out]
 refine (change_Normal.calls k a0_0 A0_1 c0_1 l0_1 n1 n2 n3 wb (Kd.C_below HR.out HB0.out) HC.out (Tabs.below HT.out HB0.out) HA.out).mono ?_
 rintro e w1 ⟨v1, rfl, hv, hb1⟩
 have HB1 := am (below_step HB0.out hb1)
 have KK0 := am (blk_below K0.out hb1)
 have KK1 := am (blk_below K1.out hb1)
 have KK2 := am (blk_below K2.out hb1)
 obtain ⟨A2, c2, rfl, hl2, hF2⟩ := hv
 have HF2 := am hF2
 have HL2 := am hl2
 clear hF2 hl2 hb1
 have hz0 : (w1.alloc (.cells #[.int .i64 n1, .slice A2 n2.length c2] 26)).cell? ⟨w.heap.size, 0, none⟩ = some (.int .i64 a0_0) := pw_cell_below (below_alloc (Below.refl _ _) _) ((blk_cell KK0.out 0).trans rfl)
 have hz1 : (w1.alloc (.cells #[.int .i64 n1, .slice A2 n2.length c2] 26)).cell? ⟨w.heap.size + 1, 0, none⟩ = some (.int .i64 a1) := pw_cell_below (below_alloc (Below.refl _ _) _) ((blk_cell KK1.out 0).trans rfl)
 go_wp2
 go_ret2
 exact ⟨rfl, by repeat (first | exact HB1.out | apply below_alloc | apply pw_below_drewN | apply below_drew1 | refine below_set ?_ (HB1.out.size))⟩
def anchor_End.f (k : Nat) (a0_0 : Int) (l0_1 : List (S43)) (a1 : Int) : Option (Int × Int) := (anchor_placed.f k a0_0 l0_1 a1 false).bind fun bt308 => (some (bt308.1, bt308.2))
theorem anchor_End.mono : ∀ a0 a1 a2 k, LeO (anchor_End.f k a0 a1 a2) (anchor_End.f (k + 1) a0 a1 a2) := by
 intro a0 a1 a2 k
 unfold anchor_End.f
 have m0 := @anchor_placed.mono; exact lo
set_option maxHeartbeats 8000000 in
set_option maxRecDepth 100000 in
theorem anchor_End.calls (k : Nat) (a0_0 : Int) (A0_1 : Option Addr) (c0_1 : Nat) (l0_1 : List (S43)) (a1 : Int) (r1 : Int) (r2 : Int) (w : World) (hr0_1 : Kd.C k43 w A0_1 l0_1.length l0_1) (hc0_1 : l0_1.length ≤ c0_1) (hT_ : Tabs w) (h : anchor_End.f k a0_0 l0_1 a1 = some (r1, r2)) :
 Calls Tryd.prog 17 #[.agg #[.int .i64 a0_0, .slice A0_1 l0_1.length c0_1], .int .i64 a1] w fun e w' => e = .returned (.tuple #[.int .i64 r1, .int .i64 r2]) ∧ Below w.heap.size w w' := by
 have hu26 := Tryd.underlying26
 have HT_ := am hT_
 clear hT_
 have HR0_1 := am hr0_1
 have HC0_1 := am hc0_1
 clear hr0_1 hc0_1
 have HB := am (Below.refl w.heap.size w)
 have H : ((anchor_placed.f k a0_0 l0_1 a1 false).bind fun bt308 => (some (bt308.1, bt308.2))) = some (r1, r2) := h
 clear h
 replace H := Option.bind_eq_some_iff.mp H
 obtain ⟨⟨t308, t309⟩, A30, H⟩ := H
 replace H : (some (t308, t309)) = some (r1, r2) := H
 have A3 := am A30
 clear A30
 simp only [Option.some.injEq, Prod.mk.injEq] at H
 obtain ⟨rfl, rfl⟩ := H
 go_enter Tryd.func17, Tryd.ntmps17
 go_wp2_with (first | ((with_reducible refine gate_dst (N := 2) rfl ?_); refine bev #[.int .i64 a0_0, .slice A0_1 l0_1.length c0_1] 26 ?_; intro gb307 hg w4 hbox hb; have BK307 := am (hbox); have GW307 := am (szl hg (bl HB.out)); have GE307 := am (szl hg (bl HB.out)); have HB := am (below_step (bl HB.out) hb); clear hb hbox hg; obtain ⟨hcz5_0, hcz5_1, hfz5_0, hfz5_1⟩ := bc2 BK307.out) | ((with_reducible refine gate_callee (f := 43) rfl ?_); refine goesL_ (some 8) rfl rfl Tryd.func43 (by kernel_rfl) rfl #[.agg #[.int .i64 a0_0, .slice A0_1 l0_1.length c0_1], .int .i64 a1, .bool false] rfl (by (try simp only [List.map_toArray, List.map_cons, List.map_nil]); first | done | rfl | (simp only [List.length_drop, List.length_take]; rfl)) ?_; (with_reducible refine (anchor_placed.calls k a0_0 _ _ l0_1 a1 false t308 t309 _ ?side1 ?side2 ?side3 A3.out).mono ?_); (case side1 => exact ks (Kd.C_below HR0_1.out HB.out)); (case side2 => exact HC0_1.out); (case side3 => exact Tabs.below HT_.out (bl HB.out)); rintro e w6 ⟨rfl, hb⟩; refine ⟨_, rfl, ?_⟩; have BK307 := am (blk_below (bk BK307.out) hb); have HB := am (below_step (bl HB.out) hb); (try clear hb); (try clear hb2); (try clear hk); (try clear hi)))
 go_ret2
 exact ⟨re, bl HB.out⟩
def anchor_Start.f (k : Nat) (a0_0 : Int) (l0_1 : List (S43)) (a1 : Int) : Option (Int × Int) := (anchor_placed.f k a0_0 l0_1 a1 true).bind fun bt311 => (some (bt311.1, bt311.2))
theorem anchor_Start.mono : ∀ a0 a1 a2 k, LeO (anchor_Start.f k a0 a1 a2) (anchor_Start.f (k + 1) a0 a1 a2) := by
 intro a0 a1 a2 k
 unfold anchor_Start.f
 have m0 := @anchor_placed.mono; exact lo
set_option maxHeartbeats 8000000 in
set_option maxRecDepth 100000 in
theorem anchor_Start.calls (k : Nat) (a0_0 : Int) (A0_1 : Option Addr) (c0_1 : Nat) (l0_1 : List (S43)) (a1 : Int) (r1 : Int) (r2 : Int) (w : World) (hr0_1 : Kd.C k43 w A0_1 l0_1.length l0_1) (hc0_1 : l0_1.length ≤ c0_1) (hT_ : Tabs w) (h : anchor_Start.f k a0_0 l0_1 a1 = some (r1, r2)) :
 Calls Tryd.prog 18 #[.agg #[.int .i64 a0_0, .slice A0_1 l0_1.length c0_1], .int .i64 a1] w fun e w' => e = .returned (.tuple #[.int .i64 r1, .int .i64 r2]) ∧ Below w.heap.size w w' := by
 have hu26 := Tryd.underlying26
 have HT_ := am hT_
 clear hT_
 have HR0_1 := am hr0_1
 have HC0_1 := am hc0_1
 clear hr0_1 hc0_1
 have HB := am (Below.refl w.heap.size w)
 have H : ((anchor_placed.f k a0_0 l0_1 a1 true).bind fun bt311 => (some (bt311.1, bt311.2))) = some (r1, r2) := h
 clear h
 replace H := Option.bind_eq_some_iff.mp H
 obtain ⟨⟨t311, t312⟩, A30, H⟩ := H
 replace H : (some (t311, t312)) = some (r1, r2) := H
 have A3 := am A30
 clear A30
 simp only [Option.some.injEq, Prod.mk.injEq] at H
 obtain ⟨rfl, rfl⟩ := H
 go_enter Tryd.func18, Tryd.ntmps18
 go_wp2_with (first | ((with_reducible refine gate_dst (N := 2) rfl ?_); refine bev #[.int .i64 a0_0, .slice A0_1 l0_1.length c0_1] 26 ?_; intro gb310 hg w4 hbox hb; have BK310 := am (hbox); have GW310 := am (szl hg (bl HB.out)); have GE310 := am (szl hg (bl HB.out)); have HB := am (below_step (bl HB.out) hb); clear hb hbox hg; obtain ⟨hcz5_0, hcz5_1, hfz5_0, hfz5_1⟩ := bc2 BK310.out) | ((with_reducible refine gate_callee (f := 43) rfl ?_); refine goesL_ (some 8) rfl rfl Tryd.func43 (by kernel_rfl) rfl #[.agg #[.int .i64 a0_0, .slice A0_1 l0_1.length c0_1], .int .i64 a1, .bool true] rfl (by (try simp only [List.map_toArray, List.map_cons, List.map_nil]); first | done | rfl | (simp only [List.length_drop, List.length_take]; rfl)) ?_; (with_reducible refine (anchor_placed.calls k a0_0 _ _ l0_1 a1 true t311 t312 _ ?side1 ?side2 ?side3 A3.out).mono ?_); (case side1 => exact ks (Kd.C_below HR0_1.out HB.out)); (case side2 => exact HC0_1.out); (case side3 => exact Tabs.below HT_.out (bl HB.out)); rintro e w6 ⟨rfl, hb⟩; refine ⟨_, rfl, ?_⟩; have BK310 := am (blk_below (bk BK310.out) hb); have HB := am (below_step (bl HB.out) hb); (try clear hb); (try clear hb2); (try clear hk); (try clear hi)))
 go_ret2
 exact ⟨re, bl HB.out⟩
def anchor_Right.j0 : Nat → Bool → Option (Int)
 | 0, _ => none
 | k + 1, x30 => if x30 = true then (some 80) else (some 0)
def anchor_Right.f (k : Nat) (a0_0 : Int) (a0_1 : Int) (a0_2 : Bool) (a1 : Int) : Option (Int) := if a0_0 < 0 then (anchor_Right.j0 k true) else (if a0_1 > a1 then (anchor_Right.j0 k true) else (if a0_0 > a0_1 then (anchor_Right.j0 k true) else (anchor_Right.j0 k (a0_2 != (a0_0 == a0_1)))))
theorem anchor_Right.mono_l : ∀ k, (∀ y0, LeO (anchor_Right.j0 k y0) (anchor_Right.j0 (k + 1) y0))
 | 0 => fun _ r h => by simp [anchor_Right.j0] at h
 | k + 1 => by
  have ih0 := anchor_Right.mono_l k
  intro y0
  unfold anchor_Right.j0
  exact lo
theorem anchor_Right.mono : ∀ a0 a1 a2 a3 k, LeO (anchor_Right.f k a0 a1 a2 a3) (anchor_Right.f (k + 1) a0 a1 a2 a3) := by
 intro a0 a1 a2 a3 k
 have ih0 := anchor_Right.mono_l k
 unfold anchor_Right.f
 exact lo
set_option maxHeartbeats 8000000 in
set_option maxRecDepth 100000 in
theorem anchor_Right.calls (k : Nat) (a0_0 : Int) (a0_1 : Int) (a0_2 : Bool) (a1 : Int) (r : Int) (w : World) (h : anchor_Right.f k a0_0 a0_1 a0_2 a1 = some r) :
 Calls Tryd.prog 36 #[.agg #[.int .i64 a0_0, .int .i64 a0_1, .bool a0_2], .int .i64 a1] w fun e w' => e = .returned (.int .i64 r) ∧ Below w.heap.size w w' := by
 have hu23 := Tryd.underlying23
 have HB := am (Below.refl w.heap.size w)
 have H : (if a0_0 < 0 then (anchor_Right.j0 k true) else (if a0_1 > a1 then (anchor_Right.j0 k true) else (if a0_0 > a0_1 then (anchor_Right.j0 k true) else (anchor_Right.j0 k (a0_2 != (a0_0 == a0_1)))))) = some r := h
 clear h
 have HC3 := am H
 clear H
 go_enter Tryd.func36, Tryd.ntmps36
 go_upto_region 1 with (first | ((with_reducible refine gate_dst (N := 2) rfl ?_); refine bev #[.int .i64 a0_0, .int .i64 a0_1, .bool a0_2] 23 ?_; intro gb313 hg w4 hbox hb; have BK313 := am (hbox); have GW313 := am (szl hg (bl HB.out)); have GE313 := am (szl hg (bl HB.out)); have HB := am (below_step (bl HB.out) hb); clear hb hbox hg))
 (try simp only [Act.put, List.setIfInBounds_toArray, List.set_cons_zero, List.set_cons_succ])
 go_cut [30] (fun v30 wc => ∃ (kq : Nat) (x30_2 : Bool), v30 = .bool x30_2 ∧ Aside0 (anchor_Right.j0 kq x30_2 = some r) ∧ Aside0 (kq ≤ k) ∧ Aside0 (wc.heap[gb313]? = some (.cells #[.int .i64 a0_0, .int .i64 a0_1, .bool a0_2] 23 (0, 0))) ∧ Aside0 (Below w.heap.size w wc))
 case first =>
  have H := HC3.out
  clear HC3
  by_cases c5 : a0_0 < 0
  ·rw [if_pos c5] at H
   have c5b0 : decide (a0_0 < 0) = true := decide_eq_true c5
   clear c5
   (first | rw [c5b0] | (simp only [i64_w, i32_w]; rw [c5b0]) | skip)
   have H' := am H
   clear H
   have hcz6_0 : w4.cell? ⟨gb313, 0, none⟩ = some (.int .i64 a0_0) := (blk_cell BK313.out 0).trans rfl
   have hcz6_1 : w4.cell? ⟨gb313, 1, none⟩ = some (.int .i64 a0_1) := (blk_cell BK313.out 1).trans rfl
   have hcz6_2 : w4.cell? ⟨gb313, 2, none⟩ = some (.bool a0_2) := (blk_cell BK313.out 2).trans rfl
   have hfz6_0 := blk_frozen BK313.out 0
   have hfz6_1 := blk_frozen BK313.out 1
   have hfz6_2 := blk_frozen BK313.out 2
   go_wp2
   go_meet
   case rel => exact ⟨_, (true), (rs), H', ⟨by first | omega | exact Nat.le_refl _⟩, ⟨bk BK313.out⟩, ⟨bl HB.out⟩⟩
  rw [if_neg c5] at H
  have c5b0 : decide (a0_0 < 0) = false := decide_eq_false c5
  clear c5
  (first | rw [c5b0] | (simp only [i64_w, i32_w]; rw [c5b0]) | skip)
  by_cases c7 : a0_1 > a1
  ·rw [if_pos c7] at H
   have c7b0 : decide (a1 < a0_1) = true := decide_eq_true c7
   clear c7
   have H' := am H
   clear H
   have hcz8_0 : w4.cell? ⟨gb313, 0, none⟩ = some (.int .i64 a0_0) := (blk_cell BK313.out 0).trans rfl
   have hcz8_1 : w4.cell? ⟨gb313, 1, none⟩ = some (.int .i64 a0_1) := (blk_cell BK313.out 1).trans rfl
   have hcz8_2 : w4.cell? ⟨gb313, 2, none⟩ = some (.bool a0_2) := (blk_cell BK313.out 2).trans rfl
   have hfz8_0 := blk_frozen BK313.out 0
   have hfz8_1 := blk_frozen BK313.out 1
   have hfz8_2 := blk_frozen BK313.out 2
   go_wp2
   go_meet
   case rel => exact ⟨_, (true), (rs), H', ⟨by first | omega | exact Nat.le_refl _⟩, ⟨bk BK313.out⟩, ⟨bl HB.out⟩⟩
  rw [if_neg c7] at H
  have c7b0 : decide (a1 < a0_1) = false := decide_eq_false c7
  clear c7
  by_cases c9 : a0_0 > a0_1
  ·rw [if_pos c9] at H
   have c9b0 : decide (a0_1 < a0_0) = true := decide_eq_true c9
   clear c9
   have H' := am H
   clear H
   have hcz10_0 : w4.cell? ⟨gb313, 0, none⟩ = some (.int .i64 a0_0) := (blk_cell BK313.out 0).trans rfl
   have hcz10_1 : w4.cell? ⟨gb313, 1, none⟩ = some (.int .i64 a0_1) := (blk_cell BK313.out 1).trans rfl
   have hcz10_2 : w4.cell? ⟨gb313, 2, none⟩ = some (.bool a0_2) := (blk_cell BK313.out 2).trans rfl
   have hfz10_0 := blk_frozen BK313.out 0
   have hfz10_1 := blk_frozen BK313.out 1
   have hfz10_2 := blk_frozen BK313.out 2
   go_wp2
   go_meet
   case rel => exact ⟨_, (true), (rs), H', ⟨by first | omega | exact Nat.le_refl _⟩, ⟨bk BK313.out⟩, ⟨bl HB.out⟩⟩
  rw [if_neg c9] at H
  have c9b0 : decide (a0_1 < a0_0) = false := decide_eq_false c9
  clear c9
  have H' := am H
  clear H
  have hcz11_0 : w4.cell? ⟨gb313, 0, none⟩ = some (.int .i64 a0_0) := (blk_cell BK313.out 0).trans rfl
  have hcz11_1 : w4.cell? ⟨gb313, 1, none⟩ = some (.int .i64 a0_1) := (blk_cell BK313.out 1).trans rfl
  have hcz11_2 : w4.cell? ⟨gb313, 2, none⟩ = some (.bool a0_2) := (blk_cell BK313.out 2).trans rfl
  have hfz11_0 := blk_frozen BK313.out 0
  have hfz11_1 := blk_frozen BK313.out 1
  have hfz11_2 := blk_frozen BK313.out 2
  go_wp2
  go_meet
  case rel => exact ⟨_, ((a0_2 != (a0_0 == a0_1))), (rs), H', ⟨by first | omega | exact Nat.le_refl _⟩, ⟨bk BK313.out⟩, ⟨bl HB.out⟩⟩
 case rest =>
  clear HC3
  try clear p2; try clear c3; try clear c5; try clear c5b0; try clear c7; try clear c7b0; try clear c9; try clear c9b0; try clear hcz10_0; try clear hcz10_1; try clear hcz10_2; try clear hcz11_0; try clear hcz11_1; try clear hcz11_2; try clear hcz6_0; try clear hcz6_1; try clear hcz6_2; try clear hcz8_0; try clear hcz8_1; try clear hcz8_2; try clear hfz10_0; try clear hfz10_1; try clear hfz10_2; try clear hfz11_0; try clear hfz11_1; try clear hfz11_2; try clear hfz6_0; try clear hfz6_1; try clear hfz6_2; try clear hfz8_0; try clear hfz8_1; try clear hfz8_2
  obtain ⟨kq, x30_2, rfl, HA, HJ2, BK313, HB⟩ := hcut
  cases kq with
  | zero => exact absurd HA.out (by simp [anchor_Right.j0])
  | succ kj2 =>
   have H := HA.out
   clear HA
   simp only [anchor_Right.j0] at H
   by_cases c12 : x30_2 = true
   ·subst c12
    have H1 : (some 80) = some r := by rw [if_pos rfl] at H; exact H
    clear H
    have H := H1
    clear H1
    obtain rfl := Option.some.inj H
    go_wp2
    go_ret
    exact ⟨re, bl HB.out⟩
   replace c12 := Bool.eq_false_iff.mpr c12
   subst c12
   have H1 : (some 0) = some r := by rw [if_neg (show ¬ (false = true) by decide)] at H; exact H
   clear H
   have H := H1
   clear H1
   obtain rfl := Option.some.inj H
   go_wp2
   go_ret
   exact ⟨re, bl HB.out⟩
def anchor_Move.f (k : Nat) (a0_0 : Int) (l0_1 : List (S43)) (a1_0 : Int) (a1_1 : Int) (a1_2 : Bool) : Option (Int × Int × Bool × Int) := (change_Right.f k a0_0 l0_1).bind fun t317 => (if t317 = 0 then ((anchor_Right.f k a1_0 a1_1 a1_2 a0_0).bind fun t318 => (if t318 = 0 then ((anchor_Start.f k a0_0 l0_1 a1_0).bind fun bt319 => (if a1_2 = true then (some (bt319.1, bt319.1, (bt319.1 == bt319.1), 0)) else ((anchor_End.f k a0_0 l0_1 a1_1).bind fun bt321 => (some (bt319.1, bt321.1, (bt319.1 == bt321.1), 0))))) else (some (0, 0, false, t318)))) else (some (0, 0, false, t317)))
theorem anchor_Move.mono : ∀ a0 a1 a2 a3 a4 k, LeO (anchor_Move.f k a0 a1 a2 a3 a4) (anchor_Move.f (k + 1) a0 a1 a2 a3 a4) := by
 intro a0 a1 a2 a3 a4 k
 unfold anchor_Move.f
 have m0 := @anchor_End.mono; have m1 := @anchor_Right.mono; have m2 := @anchor_Start.mono; have m3 := @change_Right.mono; exact lo
set_option maxHeartbeats 8000000 in
set_option maxRecDepth 100000 in
theorem anchor_Move.calls (k : Nat) (a0_0 : Int) (A0_1 : Option Addr) (c0_1 : Nat) (l0_1 : List (S43)) (a1_0 : Int) (a1_1 : Int) (a1_2 : Bool) (r1 : Int) (r2 : Int) (r3 : Bool) (r4 : Int) (w : World) (hr0_1 : Kd.C k43 w A0_1 l0_1.length l0_1) (hc0_1 : l0_1.length ≤ c0_1) (hT_ : Tabs w) (h : anchor_Move.f k a0_0 l0_1 a1_0 a1_1 a1_2 = some (r1, r2, r3, r4)) :
 Calls Tryd.prog 15 #[.agg #[.int .i64 a0_0, .slice A0_1 l0_1.length c0_1], .agg #[.int .i64 a1_0, .int .i64 a1_1, .bool a1_2]] w fun e w' => e = .returned (.tuple #[.agg #[.int .i64 r1, .int .i64 r2, .bool r3], .int .i64 r4]) ∧ Below w.heap.size w w' := by
 have hu26 := Tryd.underlying26
 have hu23 := Tryd.underlying23
 have HT_ := am hT_
 clear hT_
 have HR0_1 := am hr0_1
 have HC0_1 := am hc0_1
 clear hr0_1 hc0_1
 have HB := am (Below.refl w.heap.size w)
 have H : ((change_Right.f k a0_0 l0_1).bind fun t317 => (if t317 = 0 then ((anchor_Right.f k a1_0 a1_1 a1_2 a0_0).bind fun t318 => (if t318 = 0 then ((anchor_Start.f k a0_0 l0_1 a1_0).bind fun bt319 => (if a1_2 = true then (some (bt319.1, bt319.1, (bt319.1 == bt319.1), 0)) else ((anchor_End.f k a0_0 l0_1 a1_1).bind fun bt321 => (some (bt319.1, bt321.1, (bt319.1 == bt321.1), 0))))) else (some (0, 0, false, t318)))) else (some (0, 0, false, t317)))) = some (r1, r2, r3, r4) := h
 clear h
 replace H := Option.bind_eq_some_iff.mp H
 obtain ⟨t317, A30, H⟩ := H
 replace H : (if t317 = 0 then ((anchor_Right.f k a1_0 a1_1 a1_2 a0_0).bind fun t318 => (if t318 = 0 then ((anchor_Start.f k a0_0 l0_1 a1_0).bind fun bt319 => (if a1_2 = true then (some (bt319.1, bt319.1, (bt319.1 == bt319.1), 0)) else ((anchor_End.f k a0_0 l0_1 a1_1).bind fun bt321 => (some (bt319.1, bt321.1, (bt319.1 == bt321.1), 0))))) else (some (0, 0, false, t318)))) else (some (0, 0, false, t317))) = some (r1, r2, r3, r4) := H
 have A3 := am A30
 clear A30
 by_cases c4 : t317 = 0
 ·rw [if_pos c4] at H
  have c4b0 : (t317 == 0) = true := beq_iff_eq.mpr c4
  have c4b1 : (t317 != 0) = false := bne_eq_false_iff_eq.mpr c4
  clear c4
  replace H := Option.bind_eq_some_iff.mp H
  obtain ⟨t318, A50, H⟩ := H
  replace H : (if t318 = 0 then ((anchor_Start.f k a0_0 l0_1 a1_0).bind fun bt319 => (if a1_2 = true then (some (bt319.1, bt319.1, (bt319.1 == bt319.1), 0)) else ((anchor_End.f k a0_0 l0_1 a1_1).bind fun bt321 => (some (bt319.1, bt321.1, (bt319.1 == bt321.1), 0))))) else (some (0, 0, false, t318))) = some (r1, r2, r3, r4) := H
  have A5 := am A50
  clear A50
  by_cases c6 : t318 = 0
  ·rw [if_pos c6] at H
   have c6b0 : (t318 == 0) = true := beq_iff_eq.mpr c6
   have c6b1 : (t318 != 0) = false := bne_eq_false_iff_eq.mpr c6
   clear c6
   replace H := Option.bind_eq_some_iff.mp H
   obtain ⟨⟨t319, t320⟩, A70, H⟩ := H
   replace H : (if a1_2 = true then (some (t319, t319, (t319 == t319), 0)) else ((anchor_End.f k a0_0 l0_1 a1_1).bind fun bt321 => (some (t319, bt321.1, (t319 == bt321.1), 0)))) = some (r1, r2, r3, r4) := H
   have A7 := am A70
   clear A70
   by_cases c8 : a1_2 = true
   ·subst c8
    have H1 : (some (t319, t319, (t319 == t319), 0)) = some (r1, r2, r3, r4) := by rw [if_pos rfl] at H; exact H
    clear H
    have H := H1
    clear H1
    simp only [Option.some.injEq, Prod.mk.injEq] at H
    obtain ⟨rfl, rfl, rfl, rfl⟩ := H
    go_enter Tryd.func15, Tryd.ntmps15
    go_wp2_with (first | ((with_reducible refine gate_dst (N := 2) rfl ?_); refine bev #[.int .i64 a0_0, .slice A0_1 l0_1.length c0_1] 26 ?_; intro gb314 hg w9 hbox hb; have BK314 := am (hbox); have GW314 := am (szl hg (bl HB.out)); have GE314 := am (szl hg (bl HB.out)); have HB := am (below_step (bl HB.out) hb); clear hb hbox hg) | ((with_reducible refine gate_dst (N := 3) rfl ?_); refine bev #[.int .i64 a1_0, .int .i64 a1_1, .bool true] 23 ?_; intro gb315 hg w10 hbox hb; have BK315 := am (hbox); have GW315 := am (szl hg (bl HB.out)); have GE315 := am (szl hg (bl HB.out)); have HB := am (below_step (bl HB.out) hb); have NB314_315 := am (nel hg (bk BK314.out)); have NB315_314 := am (neg_ hg (bk BK314.out)); have BK314 := am (blk_below (bk BK314.out) hb); clear hb hbox hg) | ((with_reducible refine gate_dst (N := 4) rfl ?_); refine bev #[.int .i64 0, .int .i64 0, .bool false] 23 ?_; intro gb316 hg w11 hbox hb; have BK316 := am (hbox); have GW316 := am (szl hg (bl HB.out)); have GE316 := am (szl hg (bl HB.out)); have HB := am (below_step (bl HB.out) hb); have NB314_316 := am (nel hg (bk BK314.out)); have NB316_314 := am (neg_ hg (bk BK314.out)); have BK314 := am (blk_below (bk BK314.out) hb); have NB315_316 := am (nel hg (bk BK315.out)); have NB316_315 := am (neg_ hg (bk BK315.out)); have BK315 := am (blk_below (bk BK315.out) hb); clear hb hbox hg; have hnb12 := NB314_315.out; have hnc12 := NB315_314.out; have hnb13 := NB314_316.out; have hnc13 := NB316_314.out; obtain ⟨hcz14_0, hcz14_1, hfz14_0, hfz14_1⟩ := bc2 BK314.out) | ((with_reducible refine gate_callee (f := 25) rfl ?_); refine goesL_ (some 12) rfl rfl Tryd.func25 (by kernel_rfl) rfl #[.agg #[.int .i64 a0_0, .slice A0_1 l0_1.length c0_1]] rfl (by (try simp only [List.map_toArray, List.map_cons, List.map_nil]); first | done | rfl | (simp only [List.length_drop, List.length_take]; rfl)) ?_; (with_reducible refine (change_Right.calls k a0_0 _ _ l0_1 t317 _ ?side1 ?side2 ?side3 A3.out).mono ?_); (case side1 => exact ks (Kd.C_below HR0_1.out HB.out)); (case side2 => exact HC0_1.out); (case side3 => exact Tabs.below HT_.out (bl HB.out)); rintro e w15 ⟨rfl, hb⟩; refine ⟨_, rfl, ?_⟩; have BK314 := am (blk_below (bk BK314.out) hb); have BK315 := am (blk_below (bk BK315.out) hb); have BK316 := am (blk_below (bk BK316.out) hb); have HB := am (below_step (bl HB.out) hb); (try clear hb); (try clear hb2); (try clear hk); (try clear hi); have hnb16 := NB315_316.out; have hnc16 := NB316_315.out; obtain ⟨hcz17_0, hcz17_1, hcz17_2, hfz17_0, hfz17_1, hfz17_2⟩ := bc3 BK315.out; obtain ⟨hcz18_0, hcz18_1, hfz18_0, hfz18_1⟩ := bc2 BK314.out) | ((with_reducible refine gate_callee (f := 36) rfl ?_); refine goesL_ (some 20) rfl rfl Tryd.func36 (by kernel_rfl) rfl #[.agg #[.int .i64 a1_0, .int .i64 a1_1, .bool true], .int .i64 a0_0] rfl (by (try simp only [List.map_toArray, List.map_cons, List.map_nil]); first | done | rfl | (simp only [List.length_drop, List.length_take]; rfl)) ?_; (with_reducible refine (anchor_Right.calls k a1_0 a1_1 true a0_0 t318 _ A5.out).mono ?_); rintro e w19 ⟨rfl, hb⟩; refine ⟨_, rfl, ?_⟩; have BK314 := am (blk_below (bk BK314.out) hb); have BK315 := am (blk_below (bk BK315.out) hb); have BK316 := am (blk_below (bk BK316.out) hb); have HB := am (below_step (bl HB.out) hb); (try clear hb); (try clear hb2); (try clear hk); (try clear hi); obtain ⟨hcz20_0, hcz20_1, hfz20_0, hfz20_1⟩ := bc2 BK314.out; obtain ⟨hcz21_0, hcz21_1, hcz21_2, hfz21_0, hfz21_1, hfz21_2⟩ := bc3 BK315.out) | ((with_reducible refine gate_callee (f := 18) rfl ?_); refine goesL_ (some 29) rfl rfl Tryd.func18 (by kernel_rfl) rfl #[.agg #[.int .i64 a0_0, .slice A0_1 l0_1.length c0_1], .int .i64 a1_0] rfl (by (try simp only [List.map_toArray, List.map_cons, List.map_nil]); first | done | rfl | (simp only [List.length_drop, List.length_take]; rfl)) ?_; (with_reducible refine (anchor_Start.calls k a0_0 _ _ l0_1 a1_0 t319 t320 _ ?side1 ?side2 ?side3 A7.out).mono ?_); (case side1 => exact ks (Kd.C_below HR0_1.out HB.out)); (case side2 => exact HC0_1.out); (case side3 => exact Tabs.below HT_.out (bl HB.out)); rintro e w22 ⟨rfl, hb⟩; refine ⟨_, rfl, ?_⟩; have BK314 := am (blk_below (bk BK314.out) hb); have BK315 := am (blk_below (bk BK315.out) hb); have BK316 := am (blk_below (bk BK316.out) hb); have HB := am (below_step (bl HB.out) hb); (try clear hb); (try clear hb2); (try clear hk); (try clear hi); obtain ⟨hcz23_0, hcz23_1, hcz23_2, hfz23_0, hfz23_1, hfz23_2⟩ := bc3 BK315.out; obtain ⟨hcz24_0, hcz24_1, hcz24_2, hfz24_0, hfz24_1, hfz24_2⟩ := bc3 BK316.out))
    refine bodyPost_ret (results_ct rfl _ _ gb316 23 #[.int .i64 t319, .int .i64 t319, .bool true] (0, 0) _ rfl (bp BK316.out) Tryd.underlying23 rfl (by kernel_rfl)) rfl ?_
    exact ⟨re, bl HB.out⟩
   replace c8 := Bool.eq_false_iff.mpr c8
   subst c8
   have H1 : ((anchor_End.f k a0_0 l0_1 a1_1).bind fun bt321 => (some (t319, bt321.1, (t319 == bt321.1), 0))) = some (r1, r2, r3, r4) := by rw [if_neg (show ¬ (false = true) by decide)] at H; exact H
   clear H
   have H := H1
   clear H1
   replace H := Option.bind_eq_some_iff.mp H
   obtain ⟨⟨t321, t322⟩, A250, H⟩ := H
   replace H : (some (t319, t321, (t319 == t321), 0)) = some (r1, r2, r3, r4) := H
   have A25 := am A250
   clear A250
   simp only [Option.some.injEq, Prod.mk.injEq] at H
   obtain ⟨rfl, rfl, rfl, rfl⟩ := H
   go_enter Tryd.func15, Tryd.ntmps15
   go_wp2_with (first | ((with_reducible refine gate_dst (N := 2) rfl ?_); refine bev #[.int .i64 a0_0, .slice A0_1 l0_1.length c0_1] 26 ?_; intro gb314 hg w26 hbox hb; have BK314 := am (hbox); have GW314 := am (szl hg (bl HB.out)); have GE314 := am (szl hg (bl HB.out)); have HB := am (below_step (bl HB.out) hb); clear hb hbox hg) | ((with_reducible refine gate_dst (N := 3) rfl ?_); refine bev #[.int .i64 a1_0, .int .i64 a1_1, .bool false] 23 ?_; intro gb315 hg w27 hbox hb; have BK315 := am (hbox); have GW315 := am (szl hg (bl HB.out)); have GE315 := am (szl hg (bl HB.out)); have HB := am (below_step (bl HB.out) hb); have NB314_315 := am (nel hg (bk BK314.out)); have NB315_314 := am (neg_ hg (bk BK314.out)); have BK314 := am (blk_below (bk BK314.out) hb); clear hb hbox hg) | ((with_reducible refine gate_dst (N := 4) rfl ?_); refine bev #[.int .i64 0, .int .i64 0, .bool false] 23 ?_; intro gb316 hg w28 hbox hb; have BK316 := am (hbox); have GW316 := am (szl hg (bl HB.out)); have GE316 := am (szl hg (bl HB.out)); have HB := am (below_step (bl HB.out) hb); have NB314_316 := am (nel hg (bk BK314.out)); have NB316_314 := am (neg_ hg (bk BK314.out)); have BK314 := am (blk_below (bk BK314.out) hb); have NB315_316 := am (nel hg (bk BK315.out)); have NB316_315 := am (neg_ hg (bk BK315.out)); have BK315 := am (blk_below (bk BK315.out) hb); clear hb hbox hg; have hnb29 := NB314_315.out; have hnc29 := NB315_314.out; have hnb30 := NB314_316.out; have hnc30 := NB316_314.out; obtain ⟨hcz31_0, hcz31_1, hfz31_0, hfz31_1⟩ := bc2 BK314.out) | ((with_reducible refine gate_callee (f := 25) rfl ?_); refine goesL_ (some 12) rfl rfl Tryd.func25 (by kernel_rfl) rfl #[.agg #[.int .i64 a0_0, .slice A0_1 l0_1.length c0_1]] rfl (by (try simp only [List.map_toArray, List.map_cons, List.map_nil]); first | done | rfl | (simp only [List.length_drop, List.length_take]; rfl)) ?_; (with_reducible refine (change_Right.calls k a0_0 _ _ l0_1 t317 _ ?side1 ?side2 ?side3 A3.out).mono ?_); (case side1 => exact ks (Kd.C_below HR0_1.out HB.out)); (case side2 => exact HC0_1.out); (case side3 => exact Tabs.below HT_.out (bl HB.out)); rintro e w32 ⟨rfl, hb⟩; refine ⟨_, rfl, ?_⟩; have BK314 := am (blk_below (bk BK314.out) hb); have BK315 := am (blk_below (bk BK315.out) hb); have BK316 := am (blk_below (bk BK316.out) hb); have HB := am (below_step (bl HB.out) hb); (try clear hb); (try clear hb2); (try clear hk); (try clear hi); have hnb33 := NB315_316.out; have hnc33 := NB316_315.out; obtain ⟨hcz34_0, hcz34_1, hcz34_2, hfz34_0, hfz34_1, hfz34_2⟩ := bc3 BK315.out; obtain ⟨hcz35_0, hcz35_1, hfz35_0, hfz35_1⟩ := bc2 BK314.out) | ((with_reducible refine gate_callee (f := 36) rfl ?_); refine goesL_ (some 20) rfl rfl Tryd.func36 (by kernel_rfl) rfl #[.agg #[.int .i64 a1_0, .int .i64 a1_1, .bool false], .int .i64 a0_0] rfl (by (try simp only [List.map_toArray, List.map_cons, List.map_nil]); first | done | rfl | (simp only [List.length_drop, List.length_take]; rfl)) ?_; (with_reducible refine (anchor_Right.calls k a1_0 a1_1 false a0_0 t318 _ A5.out).mono ?_); rintro e w36 ⟨rfl, hb⟩; refine ⟨_, rfl, ?_⟩; have BK314 := am (blk_below (bk BK314.out) hb); have BK315 := am (blk_below (bk BK315.out) hb); have BK316 := am (blk_below (bk BK316.out) hb); have HB := am (below_step (bl HB.out) hb); (try clear hb); (try clear hb2); (try clear hk); (try clear hi); obtain ⟨hcz37_0, hcz37_1, hfz37_0, hfz37_1⟩ := bc2 BK314.out; obtain ⟨hcz38_0, hcz38_1, hcz38_2, hfz38_0, hfz38_1, hfz38_2⟩ := bc3 BK315.out) | ((with_reducible refine gate_callee (f := 18) rfl ?_); refine goesL_ (some 29) rfl rfl Tryd.func18 (by kernel_rfl) rfl #[.agg #[.int .i64 a0_0, .slice A0_1 l0_1.length c0_1], .int .i64 a1_0] rfl (by (try simp only [List.map_toArray, List.map_cons, List.map_nil]); first | done | rfl | (simp only [List.length_drop, List.length_take]; rfl)) ?_; (with_reducible refine (anchor_Start.calls k a0_0 _ _ l0_1 a1_0 t319 t320 _ ?side1 ?side2 ?side3 A7.out).mono ?_); (case side1 => exact ks (Kd.C_below HR0_1.out HB.out)); (case side2 => exact HC0_1.out); (case side3 => exact Tabs.below HT_.out (bl HB.out)); rintro e w39 ⟨rfl, hb⟩; refine ⟨_, rfl, ?_⟩; have BK314 := am (blk_below (bk BK314.out) hb); have BK315 := am (blk_below (bk BK315.out) hb); have BK316 := am (blk_below (bk BK316.out) hb); have HB := am (below_step (bl HB.out) hb); (try clear hb); (try clear hb2); (try clear hk); (try clear hi); obtain ⟨hcz40_0, hcz40_1, hcz40_2, hfz40_0, hfz40_1, hfz40_2⟩ := bc3 BK315.out; obtain ⟨hcz41_0, hcz41_1, hfz41_0, hfz41_1⟩ := bc2 BK314.out) | ((with_reducible refine gate_callee (f := 17) rfl ?_); refine goesL_ (some 40) rfl rfl Tryd.func17 (by kernel_rfl) rfl #[.agg #[.int .i64 a0_0, .slice A0_1 l0_1.length c0_1], .int .i64 a1_1] rfl (by (try simp only [List.map_toArray, List.map_cons, List.map_nil]); first | done | rfl | (simp only [List.length_drop, List.length_take]; rfl)) ?_; (with_reducible refine (anchor_End.calls k a0_0 _ _ l0_1 a1_1 t321 t322 _ ?side1 ?side2 ?side3 A25.out).mono ?_); (case side1 => exact ks (Kd.C_below HR0_1.out HB.out)); (case side2 => exact HC0_1.out); (case side3 => exact Tabs.below HT_.out (bl HB.out)); rintro e w42 ⟨rfl, hb⟩; refine ⟨_, rfl, ?_⟩; have BK314 := am (blk_below (bk BK314.out) hb); have BK315 := am (blk_below (bk BK315.out) hb); have BK316 := am (blk_below (bk BK316.out) hb); have HB := am (below_step (bl HB.out) hb); (try clear hb); (try clear hb2); (try clear hk); (try clear hi); obtain ⟨hcz43_0, hcz43_1, hcz43_2, hfz43_0, hfz43_1, hfz43_2⟩ := bc3 BK316.out))
   refine bodyPost_ret (results_ct rfl _ _ gb316 23 #[.int .i64 t319, .int .i64 t321, .bool (t319 == t321)] (0, 0) _ rfl (bp BK316.out) Tryd.underlying23 rfl (by kernel_rfl)) rfl ?_
   exact ⟨re, bl HB.out⟩
  rw [if_neg c6] at H
  have c6b0 : (t318 == 0) = false := beq_eq_false_iff_ne.mpr c6
  have c6b1 : (t318 != 0) = true := bne_iff_ne.mpr c6
  simp only [Option.some.injEq, Prod.mk.injEq] at H
  obtain ⟨rfl, rfl, rfl, rfl⟩ := H
  go_enter Tryd.func15, Tryd.ntmps15
  go_wp2_with (first | ((with_reducible refine gate_dst (N := 2) rfl ?_); refine bev #[.int .i64 a0_0, .slice A0_1 l0_1.length c0_1] 26 ?_; intro gb314 hg w44 hbox hb; have BK314 := am (hbox); have GW314 := am (szl hg (bl HB.out)); have GE314 := am (szl hg (bl HB.out)); have HB := am (below_step (bl HB.out) hb); clear hb hbox hg) | ((with_reducible refine gate_dst (N := 3) rfl ?_); refine bev #[.int .i64 a1_0, .int .i64 a1_1, .bool a1_2] 23 ?_; intro gb315 hg w45 hbox hb; have BK315 := am (hbox); have GW315 := am (szl hg (bl HB.out)); have GE315 := am (szl hg (bl HB.out)); have HB := am (below_step (bl HB.out) hb); have NB314_315 := am (nel hg (bk BK314.out)); have NB315_314 := am (neg_ hg (bk BK314.out)); have BK314 := am (blk_below (bk BK314.out) hb); clear hb hbox hg) | ((with_reducible refine gate_dst (N := 4) rfl ?_); refine bev #[.int .i64 0, .int .i64 0, .bool false] 23 ?_; intro gb316 hg w46 hbox hb; have BK316 := am (hbox); have GW316 := am (szl hg (bl HB.out)); have GE316 := am (szl hg (bl HB.out)); have HB := am (below_step (bl HB.out) hb); have NB314_316 := am (nel hg (bk BK314.out)); have NB316_314 := am (neg_ hg (bk BK314.out)); have BK314 := am (blk_below (bk BK314.out) hb); have NB315_316 := am (nel hg (bk BK315.out)); have NB316_315 := am (neg_ hg (bk BK315.out)); have BK315 := am (blk_below (bk BK315.out) hb); clear hb hbox hg; have hnb47 := NB314_315.out; have hnc47 := NB315_314.out; have hnb48 := NB314_316.out; have hnc48 := NB316_314.out; obtain ⟨hcz49_0, hcz49_1, hfz49_0, hfz49_1⟩ := bc2 BK314.out) | ((with_reducible refine gate_callee (f := 25) rfl ?_); refine goesL_ (some 12) rfl rfl Tryd.func25 (by kernel_rfl) rfl #[.agg #[.int .i64 a0_0, .slice A0_1 l0_1.length c0_1]] rfl (by (try simp only [List.map_toArray, List.map_cons, List.map_nil]); first | done | rfl | (simp only [List.length_drop, List.length_take]; rfl)) ?_; (with_reducible refine (change_Right.calls k a0_0 _ _ l0_1 t317 _ ?side1 ?side2 ?side3 A3.out).mono ?_); (case side1 => exact ks (Kd.C_below HR0_1.out HB.out)); (case side2 => exact HC0_1.out); (case side3 => exact Tabs.below HT_.out (bl HB.out)); rintro e w50 ⟨rfl, hb⟩; refine ⟨_, rfl, ?_⟩; have BK314 := am (blk_below (bk BK314.out) hb); have BK315 := am (blk_below (bk BK315.out) hb); have BK316 := am (blk_below (bk BK316.out) hb); have HB := am (below_step (bl HB.out) hb); (try clear hb); (try clear hb2); (try clear hk); (try clear hi); have hnb51 := NB315_316.out; have hnc51 := NB316_315.out; obtain ⟨hcz52_0, hcz52_1, hcz52_2, hfz52_0, hfz52_1, hfz52_2⟩ := bc3 BK315.out; obtain ⟨hcz53_0, hcz53_1, hfz53_0, hfz53_1⟩ := bc2 BK314.out) | ((with_reducible refine gate_callee (f := 36) rfl ?_); refine goesL_ (some 20) rfl rfl Tryd.func36 (by kernel_rfl) rfl #[.agg #[.int .i64 a1_0, .int .i64 a1_1, .bool a1_2], .int .i64 a0_0] rfl (by (try simp only [List.map_toArray, List.map_cons, List.map_nil]); first | done | rfl | (simp only [List.length_drop, List.length_take]; rfl)) ?_; (with_reducible refine (anchor_Right.calls k a1_0 a1_1 a1_2 a0_0 t318 _ A5.out).mono ?_); rintro e w54 ⟨rfl, hb⟩; refine ⟨_, rfl, ?_⟩; have BK314 := am (blk_below (bk BK314.out) hb); have BK315 := am (blk_below (bk BK315.out) hb); have BK316 := am (blk_below (bk BK316.out) hb); have HB := am (below_step (bl HB.out) hb); (try clear hb); (try clear hb2); (try clear hk); (try clear hi); obtain ⟨hcz55_0, hcz55_1, hcz55_2, hfz55_0, hfz55_1, hfz55_2⟩ := bc3 BK316.out))
  refine bodyPost_ret (results_ct rfl _ _ gb316 23 #[.int .i64 0, .int .i64 0, .bool false] (0, 0) _ rfl (bp BK316.out) Tryd.underlying23 rfl (by kernel_rfl)) rfl ?_
  exact ⟨re, bl HB.out⟩
 rw [if_neg c4] at H
 have c4b0 : (t317 == 0) = false := beq_eq_false_iff_ne.mpr c4
 have c4b1 : (t317 != 0) = true := bne_iff_ne.mpr c4
 simp only [Option.some.injEq, Prod.mk.injEq] at H
 obtain ⟨rfl, rfl, rfl, rfl⟩ := H
 go_enter Tryd.func15, Tryd.ntmps15
 go_wp2_with (first | ((with_reducible refine gate_dst (N := 2) rfl ?_); refine bev #[.int .i64 a0_0, .slice A0_1 l0_1.length c0_1] 26 ?_; intro gb314 hg w56 hbox hb; have BK314 := am (hbox); have GW314 := am (szl hg (bl HB.out)); have GE314 := am (szl hg (bl HB.out)); have HB := am (below_step (bl HB.out) hb); clear hb hbox hg) | ((with_reducible refine gate_dst (N := 3) rfl ?_); refine bev #[.int .i64 a1_0, .int .i64 a1_1, .bool a1_2] 23 ?_; intro gb315 hg w57 hbox hb; have BK315 := am (hbox); have GW315 := am (szl hg (bl HB.out)); have GE315 := am (szl hg (bl HB.out)); have HB := am (below_step (bl HB.out) hb); have NB314_315 := am (nel hg (bk BK314.out)); have NB315_314 := am (neg_ hg (bk BK314.out)); have BK314 := am (blk_below (bk BK314.out) hb); clear hb hbox hg) | ((with_reducible refine gate_dst (N := 4) rfl ?_); refine bev #[.int .i64 0, .int .i64 0, .bool false] 23 ?_; intro gb316 hg w58 hbox hb; have BK316 := am (hbox); have GW316 := am (szl hg (bl HB.out)); have GE316 := am (szl hg (bl HB.out)); have HB := am (below_step (bl HB.out) hb); have NB314_316 := am (nel hg (bk BK314.out)); have NB316_314 := am (neg_ hg (bk BK314.out)); have BK314 := am (blk_below (bk BK314.out) hb); have NB315_316 := am (nel hg (bk BK315.out)); have NB316_315 := am (neg_ hg (bk BK315.out)); have BK315 := am (blk_below (bk BK315.out) hb); clear hb hbox hg; have hnb59 := NB314_315.out; have hnc59 := NB315_314.out; have hnb60 := NB314_316.out; have hnc60 := NB316_314.out; obtain ⟨hcz61_0, hcz61_1, hfz61_0, hfz61_1⟩ := bc2 BK314.out) | ((with_reducible refine gate_callee (f := 25) rfl ?_); refine goesL_ (some 12) rfl rfl Tryd.func25 (by kernel_rfl) rfl #[.agg #[.int .i64 a0_0, .slice A0_1 l0_1.length c0_1]] rfl (by (try simp only [List.map_toArray, List.map_cons, List.map_nil]); first | done | rfl | (simp only [List.length_drop, List.length_take]; rfl)) ?_; (with_reducible refine (change_Right.calls k a0_0 _ _ l0_1 t317 _ ?side1 ?side2 ?side3 A3.out).mono ?_); (case side1 => exact ks (Kd.C_below HR0_1.out HB.out)); (case side2 => exact HC0_1.out); (case side3 => exact Tabs.below HT_.out (bl HB.out)); rintro e w62 ⟨rfl, hb⟩; refine ⟨_, rfl, ?_⟩; have BK314 := am (blk_below (bk BK314.out) hb); have BK315 := am (blk_below (bk BK315.out) hb); have BK316 := am (blk_below (bk BK316.out) hb); have HB := am (below_step (bl HB.out) hb); (try clear hb); (try clear hb2); (try clear hk); (try clear hi); have hnb63 := NB316_315.out; have hnc63 := NB315_316.out; obtain ⟨hcz64_0, hcz64_1, hcz64_2, hfz64_0, hfz64_1, hfz64_2⟩ := bc3 BK316.out))
 refine bodyPost_ret (results_ct rfl _ _ gb316 23 #[.int .i64 0, .int .i64 0, .bool false] (0, 0) _ rfl (bp BK316.out) Tryd.underlying23 rfl (by kernel_rfl)) rfl ?_
 exact ⟨re, bl HB.out⟩
end Go.Proofs.YtinbpjodheceoaaDoor.Sp
