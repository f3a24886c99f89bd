/- Written by this session's programs (sprint.py, prune.py). -/
import Derived.Test.YtinbpjodheceoaaDoorXgSp0
import Derived.Test.YtinbpjodheceoaaDoorXgSp3
import Derived.Test.YtinbpjodheceoaaDoorXgSp6
import Derived.Test.YtinbpjodheceoaaDoorXgSp7
import Derived.Test.YtinbpjodheceoaaDoorXgSp8
namespace Go.Proofs.YtinbpjodheceoaaDoor.Sp
open Go.RowKit Go.Proofs.YtinbpjodheceoaaDoorW.PrintWords Go.Proofs.YtinbpjodheceoaaDoorW.PrintLast Go.Proofs.YtinbpjodheceoaaDoorW.PrintMore
attribute [local go_sem] max2_int min2_int max_two min_two max_three min_three max_four min_four   -- for this text's walks alone
set_option linter.unusedVariables false
set_option linter.unusedSimpArgs false
attribute [local go_sem] own_leq own_gtr own_geq   -- for this text's walks alone
mutual
def change_Normal.l0 : Nat → List (S43) → Int → Int → Int → List (S43) → List (S43) → Int → Option (Int × (List (S43)) × Int)
 | 0, _, _, _, _, _, _, _ => none
 | k + 1, x16, x17, x18, x135000, x135001, x138000, x138001 => if x18 < x17 then (if 0 ≤ x18 then (if x18 < (x16.length : Int) then (if ((rd_T43 x16 x18).f0) = 1 then ((change_maker_flush.f k x138000 x138001).bind fun bt140 => ((change_row_put.f k bt140.1 bt140.2 ((rd_T43 x16 x18).f0) ((rd_T43 x16 x18).f1) ((rd_T43 x16 x18).f2) ((rd_T43 x16 x18).f3)).bind fun bt144 => (change_Normal.l0 k x16 x17 (wrap64 (x18 + 1)) x135000 x135001 bt144.1 bt144.2))) else (if ((rd_T43 x16 x18).f0) = 2 then ((change_row_put.f k x138000 x138001 ((rd_T43 x16 x18).f0) ((rd_T43 x16 x18).f1) ((rd_T43 x16 x18).f2) ((rd_T43 x16 x18).f3)).bind fun bt148 => (change_Normal.l0 k x16 x17 (wrap64 (x18 + 1)) x135000 x135001 bt148.1 bt148.2)) else (if ((rd_T43 x16 x18).f0) = 3 then (change_Normal.l0 k x16 x17 (wrap64 (x18 + 1)) x135000 x135001 x138000 (wrap64 (x138001 + ((rd_T43 x16 x18).f1)))) else (change_Normal.l0 k x16 x17 (wrap64 (x18 + 1)) x135000 x135001 x138000 x138001)))) else (none)) else (none)) else ((change_maker_flush.f k x138000 x138001).bind fun bt152 => (if (bt152.1.length : Int) > 0 then (if 0 ≤ (wrap64 ((bt152.1.length : Int) - 1)) then (if (wrap64 ((bt152.1.length : Int) - 1)) < (bt152.1.length : Int) then (if ((rd_T43 bt152.1 (wrap64 ((bt152.1.length : Int) - 1))).f0) = 1 then (change_Normal.j1 k (bt152.1.length : Int) ((((rd_T43 bt152.1 (wrap64 ((bt152.1.length : Int) - 1))).f3).length : Int) == 0) x135000 x135001 bt152.1 bt152.2) else (change_Normal.j1 k (bt152.1.length : Int) false x135000 x135001 bt152.1 bt152.2)) else (none)) else (none)) else (change_Normal.j1 k (bt152.1.length : Int) false x135000 x135001 bt152.1 bt152.2)))
def change_Normal.j1 : Nat → Int → Bool → Int → List (S43) → List (S43) → Int → Option (Int × (List (S43)) × Int)
 | 0, _, _, _, _, _, _ => none
 | k + 1, x8, x73, x135000, x135001, x138000, x138001 => if x73 = true then (if 0 ≤ (wrap64 (x8 - 1)) then (if (wrap64 (x8 - 1)) ≤ (x138000.length : Int) then (change_Normal.j2 k x135000 x135001 (x138000.take ((wrap64 (x8 - 1)) : Int).toNat) x138001) else (none)) else (none)) else (change_Normal.j2 k x135000 x135001 x138000 x138001)
def change_Normal.j2 : Nat → Int → List (S43) → List (S43) → Int → Option (Int × (List (S43)) × Int)
 | 0, _, _, _, _ => none
 | k + 1, x135000, x135001, x138000, x138001 => (slices_Clip.f x138000).bind fun t161 => (some (x135000, t161, 0))
end
def change_Normal.f (k : Nat) (a0_0 : Int) (l0_1 : List (S43)) : Option (Int × (List (S43)) × Int) := (change_Right.f k a0_0 l0_1).bind fun t136 => (if t136 = 0 then (change_Normal.l0 k l0_1 (l0_1.length : Int) 0 a0_0 l0_1 ([] : List (S43)) 0) else (some (0, ([] : List (S43)), t136)))
theorem change_Normal.mono_l : ∀ k, (∀ y0 y1 y2 y3 y4 y5 y6, LeO (change_Normal.l0 k y0 y1 y2 y3 y4 y5 y6) (change_Normal.l0 (k + 1) y0 y1 y2 y3 y4 y5 y6)) ∧ (∀ y0 y1 y2 y3 y4 y5, LeO (change_Normal.j1 k y0 y1 y2 y3 y4 y5) (change_Normal.j1 (k + 1) y0 y1 y2 y3 y4 y5)) ∧ (∀ y0 y1 y2 y3, LeO (change_Normal.j2 k y0 y1 y2 y3) (change_Normal.j2 (k + 1) y0 y1 y2 y3))
 | 0 => ⟨fun _ _ _ _ _ _ _ r h => by simp [change_Normal.l0] at h, fun _ _ _ _ _ _ r h => by simp [change_Normal.j1] at h, fun _ _ _ _ r h => by simp [change_Normal.j2] at h⟩
 | k + 1 => by
  obtain ⟨ih0, ih1, ih2⟩ := change_Normal.mono_l k
  refine ⟨?_, ?_, ?_⟩
  ·intro y0 y1 y2 y3 y4 y5 y6
   unfold change_Normal.l0
   have m0 := @change_Right.mono; have m1 := @change_maker_flush.mono; have m2 := @change_row_put.mono; exact lo
  ·intro y0 y1 y2 y3 y4 y5
   unfold change_Normal.j1
   have m0 := @change_Right.mono; have m1 := @change_maker_flush.mono; have m2 := @change_row_put.mono; exact lo
  intro y0 y1 y2 y3
  unfold change_Normal.j2
  have m0 := @change_Right.mono; have m1 := @change_maker_flush.mono; have m2 := @change_row_put.mono; exact lo
theorem change_Normal.mono : ∀ a0 a1 k, LeO (change_Normal.f k a0 a1) (change_Normal.f (k + 1) a0 a1) := by
 intro a0 a1 k
 obtain ⟨ih0, ih1, ih2⟩ := change_Normal.mono_l k
 unfold change_Normal.f
 have m0 := @change_Right.mono; have m1 := @change_maker_flush.mono; have m2 := @change_row_put.mono; exact lo
def change_Normal.T21 : Bool × List (List Nat × List Nat) := (true, [([], []), ([0], [0]), ([], []), ([2], [2]), ([3], [3]), ([4], [4]), ([1, 5], [1, 5]), ([6, 5, 0, 1, 2, 3, 4, 5, 6], [6]), ([7, 0, 1, 2, 3, 4, 5, 6, 7], [])])
def change_Normal.B21 : List Nat := [0, 1, 0, 4, 12, 28, 63, 127, 255]
theorem change_Normal.tab21 : rtab .any (opsOf Tryd.f21 21) = change_Normal.T21 := by kernel_rfl
theorem change_Normal.bits21 : waitsOk change_Normal.T21.2 change_Normal.B21 = true := by kernel_rfl
set_option maxHeartbeats 8000000 in
set_option maxRecDepth 100000 in
theorem change_Normal.calls (k : Nat) (a0_0 : Int) (A0_1 : Option Addr) (c0_1 : Nat) (l0_1 : List (S43)) (r1 : Int) (r2 : List (S43)) (r3 : Int) (w : World) (hr0_1 : Kd.C k43 w A0_1 l0_1.length l0_1) (hc0_1 : l0_1.length ≤ c0_1) (hT_ : Tabs w) (h : change_Normal.f k a0_0 l0_1 = some (r1, r2, r3)) :
 Calls Tryd.prog 21 #[.agg #[.int .i64 a0_0, .slice A0_1 l0_1.length c0_1]] w fun e w' => ∃ v1_ : Value, e = .returned (.tuple #[.agg #[.int .i64 r1, v1_], .int .i64 r3]) ∧ Kd.V k43 43 w' w.heap.size (fun k_ => (w.heap.size ≤ k_)) v1_ r2 ∧ Below w.heap.size w w' := by
 have hu26 := Tryd.underlying26
 have hu65 := Tryd.underlying65
 have hu43 := Tryd.underlying43
 have HT_ := am hT_
 clear hT_
 have HR0_1 := am hr0_1
 have HC0_1 := am hc0_1
 clear hr0_1 hc0_1
 have HB := am (Below.refl w.heap.size w)
 have H : ((change_Right.f k a0_0 l0_1).bind fun t136 => (if t136 = 0 then (change_Normal.l0 k l0_1 (l0_1.length : Int) 0 a0_0 l0_1 ([] : List (S43)) 0) else (some (0, ([] : List (S43)), t136)))) = some (r1, r2, r3) := h
 clear h
 replace H := Option.bind_eq_some_iff.mp H
 obtain ⟨t136, A20, H⟩ := H
 replace H : (if t136 = 0 then (change_Normal.l0 k l0_1 (l0_1.length : Int) 0 a0_0 l0_1 ([] : List (S43)) 0) else (some (0, ([] : List (S43)), t136))) = some (r1, r2, r3) := H
 have A2 := am A20
 clear A20
 by_cases c3 : t136 = 0
 ·rw [if_pos c3] at H
  have c3b0 : (t136 == 0) = true := beq_iff_eq.mpr c3
  have c3b1 : (t136 != 0) = false := bne_eq_false_iff_eq.mpr c3
  clear c3
  have H' := am H
  clear H
  go_enter Tryd.func21, Tryd.ntmps21
  go_wp2_with (first | ((with_reducible refine gate_dst (N := 1) rfl ?_); (try (refine gate_guard (by rfl) ?_; dsimp only)); refine bev #[.int .i64 a0_0, .slice A0_1 l0_1.length c0_1] 26 ?_; intro gb134 hg w4 hbox hb; have BK134 := am (hbox); have GW134 := am (szl hg (bl HB.out)); have GE134 := am (szl hg (bl HB.out)); have HB := am (below_step (bl HB.out) hb); clear hb hbox hg) | ((with_reducible refine gate_dst (N := 2) rfl ?_); (try (refine gate_guard (by rfl) ?_; dsimp only)); refine bev #[.int .i64 0, .slice none 0 0] 26 ?_; intro gb135 hg w5 hbox hb; have BK135 := am (hbox); have GW135 := am (szl hg (bl HB.out)); have GE135 := am (szl hg (bl HB.out)); have HB := am (below_step (bl HB.out) hb); have NB134_135 := am (nel hg (bk BK134.out)); have NB135_134 := am (neg_ hg (bk BK134.out)); have BK134 := am (blk_below (bk BK134.out) hb); clear hb hbox hg; have hnb6 := NB134_135.out; have hnc6 := NB135_134.out; obtain ⟨hcz7_0, hcz7_1, hfz7_0, hfz7_1⟩ := bc2 BK134.out) | ((with_reducible refine gate_callee (f := 25) rfl ?_); refine goesL_ (some 10) rfl rfl Tryd.func25 (by kernel_rfl) rfl #[.agg #[.int .i64 a0_0, .slice A0_1 l0_1.length c0_1]] rfl (by (try simp only [List.map_toArray, List.map_cons, List.map_nil]); first | done | rfl | (simp only [List.length_drop, List.length_take]; rfl)) ?_; (with_reducible refine (change_Right.calls k a0_0 _ _ l0_1 t136 _ ?side1 ?side2 ?side3 A2.out).mono ?_); (case side1 => exact ks (Kd.C_below HR0_1.out HB.out)); (case side2 => exact HC0_1.out); (case side3 => exact Tabs.below HT_.out (bl HB.out)); rintro e w8 ⟨rfl, hb⟩; refine ⟨_, rfl, ?_⟩; have BK134 := am (blk_below (bk BK134.out) hb); have BK135 := am (blk_below (bk BK135.out) hb); have HB := am (below_step (bl HB.out) hb); (try clear hb); (try clear hb2); (try clear hk); (try clear hi)) | ((with_reducible refine gate_dst (N := 5) rfl ?_); (try (refine gate_guard (by rfl) ?_; dsimp only)); refine bev #[.slice none 0 0, .int .i64 0] 65 ?_; intro gb137 hg w9 hbox hb; have BK137 := am (hbox); have GW137 := am (szl hg (bl HB.out)); have GE137 := am (szl hg (bl HB.out)); have HB := am (below_step (bl HB.out) hb); have NB134_137 := am (nel hg (bk BK134.out)); have NB137_134 := am (neg_ hg (bk BK134.out)); have BK134 := am (blk_below (bk BK134.out) hb); have NB135_137 := am (nel hg (bk BK135.out)); have NB137_135 := am (neg_ hg (bk BK135.out)); have BK135 := am (blk_below (bk BK135.out) hb); clear hb hbox hg; have hnb10 := NB134_137.out; have hnc10 := NB137_134.out; obtain ⟨hcz11_0, hcz11_1, hfz11_0, hfz11_1⟩ := bc2 BK134.out))
  go_loopg [18] k (fun kq v18 w' => ∃ (x18_1 : Int) (x138000_1 : List (S43)) (x138001_1 : Int) (u138000 : Value), v18 = .int .i64 x18_1 ∧ Aside0 (change_Normal.l0 kq l0_1 (l0_1.length : Int) x18_1 a0_0 l0_1 x138000_1 x138001_1 = some (r1, r2, r3)) ∧ Aside0 (kq ≤ k) ∧ Aside0 (Kd.S k43 43 w' w.heap.size (fun k_ => (w.heap.size ≤ k_)) u138000 x138000_1) ∧ Aside0 (w'.heap[gb134]? = some (.cells #[.int .i64 a0_0, (.slice A0_1 l0_1.length c0_1)] 26 (0, 0))) ∧ Aside0 (w'.heap[gb135]? = some (.cells #[.int .i64 0, (.slice none 0 0)] 26 (0, 0))) ∧ Aside0 (w'.heap[gb137]? = some (.cells #[u138000, .int .i64 x138001_1] 65 (0, 0))) ∧ Aside0 (Below w.heap.size w w'))
  case atStart => exact ⟨(0), (([] : List (S43))), (0), (.slice none 0 0), (rs), H', ⟨Nat.le_refl _⟩, ⟨by first | exact Kd.S_nil _ _ _ _ _ | exact Kd.N_nil _ _ _ _ _ | exact Kd.V_nil _ _ _ _ _ | exact Kd.Q_nil _ _ _ _ _ | exact Kd.R_nil _ _ _ _ _⟩, ⟨bk BK134.out⟩, ⟨bk BK135.out⟩, ⟨bk BK137.out⟩, ⟨bl HB.out⟩⟩
  case round =>
   clear H'
   try clear c1; try clear c2; try clear p2; try clear c3; try clear c3b0; try clear c3b1; try clear c6; try clear c10; try clear hcz11_0; try clear hcz11_1; try clear hcz7_0; try clear hcz7_1; try clear hfz11_0; try clear hfz11_1; try clear hfz7_0; try clear hfz7_1
   obtain ⟨x18_1, x138000_1, x138001_1, u138000, rfl, HA, HK1, HO_138000, BK134, BK135, BK137, HB⟩ := hrel
   cases gk with
   | zero => exact absurd HA.out (by simp [change_Normal.l0])
   | succ k1 =>
    have H := HA.out
    clear HA
    simp only [change_Normal.l0] at H
    by_cases c12 : x18_1 < (l0_1.length : Int)
    ·rw [if_pos c12] at H
     have c12b0 : decide (x18_1 < (l0_1.length : Int)) = true := decide_eq_true c12
     clear c12
     by_cases c13 : 0 ≤ x18_1
     ·rw [if_pos c13] at H
      have c13b0 : decide (0 ≤ x18_1) = true := decide_eq_true c13
      clear c13
      by_cases c14 : x18_1 < (l0_1.length : Int)
      ·rw [if_pos c14] at H
       have c14b0 : decide (x18_1 < (l0_1.length : Int)) = true := decide_eq_true c14
       clear c14
       by_cases c15 : ((rd_T43 l0_1 x18_1).f0) = 1
       ·rw [if_pos c15] at H
        have c15b0 : (((rd_T43 l0_1 x18_1).f0) == 1) = true := beq_iff_eq.mpr c15
        have c15b1 : (((rd_T43 l0_1 x18_1).f0) != 1) = false := bne_eq_false_iff_eq.mpr c15
        clear c15
        replace H := Option.bind_eq_some_iff.mp H
        obtain ⟨⟨t140, t143⟩, A160, H⟩ := H
        replace H : ((change_row_put.f k1 t140 t143 ((rd_T43 l0_1 x18_1).f0) ((rd_T43 l0_1 x18_1).f1) ((rd_T43 l0_1 x18_1).f2) ((rd_T43 l0_1 x18_1).f3)).bind fun bt144 => (change_Normal.l0 k1 l0_1 (l0_1.length : Int) (wrap64 (x18_1 + 1)) a0_0 l0_1 bt144.1 bt144.2)) = some (r1, r2, r3) := H
        have A16 := am A160
        clear A160
        replace H := Option.bind_eq_some_iff.mp H
        obtain ⟨⟨t144, t147⟩, A170, H⟩ := H
        replace H : (change_Normal.l0 k1 l0_1 (l0_1.length : Int) (wrap64 (x18_1 + 1)) a0_0 l0_1 t144 t147) = some (r1, r2, r3) := H
        have A17 := am A170
        clear A170
        have H' := am H
        clear H
        have p138 : 0 ≤ (x18_1 : Int) := oda
        have q138 : x18_1 < (l0_1.length : Int) := oda
        obtain ⟨ad138, A138_3, c138_3, e138, hx138_0, hx138_1, hx138_2, hx138_3, hl138_3, hi138_3⟩ := at_T43 HR0_1.out x18_1 p138 q138
        cases e138
        replace hx138_0 := hbc HB hx138_0
        replace hx138_1 := hbc HB hx138_1
        replace hx138_2 := hbc HB hx138_2
        replace hx138_3 := hbc HB hx138_3
        have HR138_3 := am hi138_3
        have HC138_3 := am hl138_3
        clear hi138_3 hl138_3
        replace p138 := eq_true p138
        replace q138 := eq_true q138
        go_wp2_with (first | ((with_reducible refine gate_dst (N := 7) rfl ?_); (try (refine gate_guard (by rfl) ?_; dsimp only)); refine bev #[.int .i64 0, .int .i64 0, .string (⟨#[]⟩ : ByteArray), .slice none 0 0] 43 ?_; intro gb139 hg w18 hbox hb; have HO_138000 := am (Kd.S_below (Kd.S_elderB (ks HO_138000.out) gb139 (Nat.le_of_eq hg.symm)) hb); have BK139 := am (hbox); have GW139 := am (szl hg (bl HB.out)); have GE139 := am (szl hg (bl HB.out)); have HB := am (below_step (bl HB.out) hb); have NB134_139 := am (nel hg (bk BK134.out)); have NB139_134 := am (neg_ hg (bk BK134.out)); have BK134 := am (blk_below (bk BK134.out) hb); have NB135_139 := am (nel hg (bk BK135.out)); have NB139_135 := am (neg_ hg (bk BK135.out)); have BK135 := am (blk_below (bk BK135.out) hb); have NB137_139 := am (nel hg (bk BK137.out)); have NB139_137 := am (neg_ hg (bk BK137.out)); have BK137 := am (blk_below (bk BK137.out) hb); clear hb hbox hg; have hnb19 := NB139_134.out; have hnc19 := NB134_139.out; have hnb20 := NB139_135.out; have hnc20 := NB135_139.out; have hnb21 := NB139_137.out; have hnc21 := NB137_139.out; obtain ⟨hcz22_0, hcz22_1, hcz22_2, hcz22_3, hfz22_0, hfz22_1, hfz22_2, hfz22_3⟩ := bc4 BK139.out; have hnb23 := NB137_134.out; have hnc23 := NB134_137.out; have hnb24 := NB137_135.out; have hnc24 := NB135_137.out; obtain ⟨hcz25_0, hcz25_1, hfz25_0, hfz25_1⟩ := bc2 BK137.out; obtain ⟨Ao26, co26, eo26⟩ := Kd.S_slice HO_138000.out; subst eo26) | ((with_reducible refine gate_callee (f := 44) rfl ?_); refine goesL_ (some 26) rfl rfl Tryd.func44 (by kernel_rfl) rfl #[.pointer (some ⟨gb137, 0, none⟩)] rfl (by (try simp only [List.map_toArray, List.map_cons, List.map_nil]); first | done | rfl | (simp only [List.length_drop, List.length_take]; rfl)) ?_; (with_reducible refine (change_maker_flush.calls w gb137 (.slice Ao26 x138000_1.length co26) x138000_1 k1 x138001_1 t140 t143 gb134 gb135 gb139 #[.int .i64 a0_0, .slice (some ad138) l0_1.length c0_1] #[.int .i64 0, .slice none 0 0] #[.int .i64 ((rd_T43 l0_1 x18_1).f0), .int .i64 ((rd_T43 l0_1 x18_1).f1), .string ((rd_T43 l0_1 x18_1).f2), .slice A138_3 ((rd_T43 l0_1 x18_1).f3).length c138_3] 43 (by decide) _ ?fB GE137.out GE134.out GE135.out GE139.out ?fm ?f1 ?f2 ?f3 NB137_134.out NB137_135.out NB137_139.out ?fo A16.out).mono ?_); (case fB => exact (bl HB.out)); (case fm => exact (bk BK137.out)); (case f1 => exact (bk BK134.out)); (case f2 => exact (bk BK135.out)); (case f3 => exact (bp BK139.out)); (case fo => exact (by (with_reducible repeat (first | apply Kd.S_alloc | apply Kd.S_drewN | apply Kd.S_drew)); exact (Kd.S_mono (Kd.S_far (p := ⟨gb139, 3, none⟩) (Kd.S_far (p := ⟨gb139, 2, none⟩) (Kd.S_far (p := ⟨gb139, 1, none⟩) (Kd.S_far (p := ⟨gb139, 0, none⟩) (Kd.S_mono HO_138000.out (fun k_ hk => (⟨hk, hk.2⟩ : _ ∧ k_ ≠ gb139))) (fun _ hk => by first | exact hk.2 | (revert hk; simp +contextual; done)) (.int .i64 ((rd_T43 l0_1 x18_1).f0))) (fun _ hk => by first | exact hk.2 | (revert hk; simp +contextual; done)) (.int .i64 ((rd_T43 l0_1 x18_1).f1))) (fun _ hk => by first | exact hk.2 | (revert hk; simp +contextual; done)) (.string ((rd_T43 l0_1 x18_1).f2))) (fun _ hk => by first | exact hk.2 | (revert hk; simp +contextual; done)) (.slice A138_3 ((rd_T43 l0_1 x18_1).f3).length c138_3)) (fun _ h_ => h_.2)))); rintro e w27 ⟨rfl, v141, hbk_, ho_, hb, hq1_, hq2_, hq3_⟩; refine ⟨_, rfl, ?_⟩; have HO_138000 := am True.intro; have HO142 := am (Kd.S_mono (Kd.S_newM (M := fun k_ => (w.heap.size ≤ k_)) ho_ (Nat.le_refl _) (fun k_ h_ => h_)) (fun _ hk => by first | exact hk.1 | (revert hk; simp +contextual; done))); have BK134 := am hq1_; have BK135 := am hq2_; have BK137 := am hbk_; have BK139 := am hq3_; have HB := am hb; clear hbk_ ho_ hq1_ hq2_ hq3_; (try clear hb); (try clear hb2); (try clear hk); (try clear hi); (try clear ho0); obtain ⟨Ao28, co28, eo28⟩ := Kd.S_slice HO142.out; subst eo28; obtain ⟨hcz29_0, hcz29_1, hcz29_2, hcz29_3, hfz29_0, hfz29_1, hfz29_2, hfz29_3⟩ := bc4 BK139.out; obtain ⟨hcz30_0, hcz30_1, hfz30_0, hfz30_1⟩ := bc2 BK137.out) | ((with_reducible refine gate_callee (f := 45) rfl ?_); refine goesL_ (some 29) rfl rfl Tryd.func45 (by kernel_rfl) rfl #[.pointer (some ⟨gb137, 0, none⟩), .agg #[.int .i64 ((rd_T43 l0_1 x18_1).f0), .int .i64 ((rd_T43 l0_1 x18_1).f1), .string ((rd_T43 l0_1 x18_1).f2), .slice A138_3 ((rd_T43 l0_1 x18_1).f3).length c138_3]] rfl (by (try simp only [List.map_toArray, List.map_cons, List.map_nil]); first | done | rfl | (simp only [List.length_drop, List.length_take]; rfl)) ?_; (with_reducible refine (change_row_put.calls w gb137 (.slice Ao28 t140.length co28) t140 k1 t143 ((rd_T43 l0_1 x18_1).f0) ((rd_T43 l0_1 x18_1).f1) ((rd_T43 l0_1 x18_1).f2) _ _ ((rd_T43 l0_1 x18_1).f3) t144 t147 gb134 gb135 gb134 #[.int .i64 a0_0, .slice (some ad138) l0_1.length c0_1] #[.int .i64 0, .slice none 0 0] #[.int .i64 a0_0, .slice (some ad138) l0_1.length c0_1] 26 (by decide) _ ?fB GE137.out GE134.out GE135.out GE134.out ?fm ?f1 ?f2 ?f3 NB137_134.out NB137_135.out NB137_134.out ?fo ?s3 ?s4 A17.out).mono ?_); (case fB => exact (bl HB.out)); (case fm => exact (bk BK137.out)); (case f1 => exact (bk BK134.out)); (case f2 => exact (bk BK135.out)); (case f3 => exact (bk BK134.out)); (case fo => exact (by exact Kd.S_mono (Kd.S_types (ks HO142.out) (bk BK134.out) (by decide)) (fun _ hk => by first | exact hk.2 | (revert hk; simp +contextual; done)))); (case s3 => exact HR138_3.out); (case s4 => exact HC138_3.out); rintro e w31 ⟨rfl, v145, hbk_, ho_, hb, hq1_, hq2_, hq3_, heq_⟩; rw [← heq_] at hbk_; clear heq_; refine ⟨_, rfl, ?_⟩; have HO_138000 := am True.intro; have HO142 := am True.intro; have HO146 := am (Kd.S_mono (Kd.S_newM (M := fun k_ => (w.heap.size ≤ k_)) ho_ (Nat.le_refl _) (fun k_ h_ => h_)) (fun _ hk => by first | exact hk.1 | (revert hk; simp +contextual; done))); have BK134 := am hq1_; have BK135 := am hq2_; have BK137 := am hbk_; have BK139 := am True.intro; have HB := am hb; clear hbk_ ho_ hq1_ hq2_ hq3_; (try clear hb); (try clear hb2); (try clear hk); (try clear hi); (try clear ho0); obtain ⟨Ao32, co32, eo32⟩ := Kd.S_slice HO146.out; subst eo32))
        go_roundg k1
        case measure => have := HK1.out; omega
        case rel => exact ⟨(wrap64 (x18_1 + 1)), (t144), (t147), (.slice Ao32 t144.length co32), (rs), H', ⟨by have := HK1.out; omega⟩, ⟨by (with_reducible repeat (first | apply Kd.S_alloc | apply Kd.S_drewN | apply Kd.S_drew)); exact Kd.S_mono HO146.out (fun _ hk => by first | exact hk.1.1.1.1 | (revert hk; simp +contextual; done))⟩, ⟨bk BK134.out⟩, ⟨bk BK135.out⟩, ⟨bk BK137.out⟩, ⟨bl HB.out⟩⟩
       rw [if_neg c15] at H
       have c15b0 : (((rd_T43 l0_1 x18_1).f0) == 1) = false := beq_eq_false_iff_ne.mpr c15
       have c15b1 : (((rd_T43 l0_1 x18_1).f0) != 1) = true := bne_iff_ne.mpr c15
       by_cases c33 : ((rd_T43 l0_1 x18_1).f0) = 2
       ·rw [if_pos c33] at H
        have c33b0 : (((rd_T43 l0_1 x18_1).f0) == 2) = true := beq_iff_eq.mpr c33
        have c33b1 : (((rd_T43 l0_1 x18_1).f0) != 2) = false := bne_eq_false_iff_eq.mpr c33
        clear c33
        replace H := Option.bind_eq_some_iff.mp H
        obtain ⟨⟨t148, t151⟩, A340, H⟩ := H
        replace H : (change_Normal.l0 k1 l0_1 (l0_1.length : Int) (wrap64 (x18_1 + 1)) a0_0 l0_1 t148 t151) = some (r1, r2, r3) := H
        have A34 := am A340
        clear A340
        have H' := am H
        clear H
        have p138 : 0 ≤ (x18_1 : Int) := oda
        have q138 : x18_1 < (l0_1.length : Int) := oda
        obtain ⟨ad138, A138_3, c138_3, e138, hx138_0, hx138_1, hx138_2, hx138_3, hl138_3, hi138_3⟩ := at_T43 HR0_1.out x18_1 p138 q138
        cases e138
        replace hx138_0 := hbc HB hx138_0
        replace hx138_1 := hbc HB hx138_1
        replace hx138_2 := hbc HB hx138_2
        replace hx138_3 := hbc HB hx138_3
        have HR138_3 := am hi138_3
        have HC138_3 := am hl138_3
        clear hi138_3 hl138_3
        replace p138 := eq_true p138
        replace q138 := eq_true q138
        go_wp2_with (first | ((with_reducible refine gate_dst (N := 7) rfl ?_); (try (refine gate_guard (by rfl) ?_; dsimp only)); refine bev #[.int .i64 0, .int .i64 0, .string (⟨#[]⟩ : ByteArray), .slice none 0 0] 43 ?_; intro gb139 hg w35 hbox hb; have HO_138000 := am (Kd.S_below (Kd.S_elderB (ks HO_138000.out) gb139 (Nat.le_of_eq hg.symm)) hb); have BK139 := am (hbox); have GW139 := am (szl hg (bl HB.out)); have GE139 := am (szl hg (bl HB.out)); have HB := am (below_step (bl HB.out) hb); have NB134_139 := am (nel hg (bk BK134.out)); have NB139_134 := am (neg_ hg (bk BK134.out)); have BK134 := am (blk_below (bk BK134.out) hb); have NB135_139 := am (nel hg (bk BK135.out)); have NB139_135 := am (neg_ hg (bk BK135.out)); have BK135 := am (blk_below (bk BK135.out) hb); have NB137_139 := am (nel hg (bk BK137.out)); have NB139_137 := am (neg_ hg (bk BK137.out)); have BK137 := am (blk_below (bk BK137.out) hb); clear hb hbox hg; have hnb36 := NB139_134.out; have hnc36 := NB134_139.out; have hnb37 := NB139_135.out; have hnc37 := NB135_139.out; have hnb38 := NB139_137.out; have hnc38 := NB137_139.out; obtain ⟨hcz39_0, hcz39_1, hcz39_2, hcz39_3, hfz39_0, hfz39_1, hfz39_2, hfz39_3⟩ := bc4 BK139.out; have hnb40 := NB137_134.out; have hnc40 := NB134_137.out; have hnb41 := NB137_135.out; have hnc41 := NB135_137.out; obtain ⟨hcz42_0, hcz42_1, hfz42_0, hfz42_1⟩ := bc2 BK137.out; obtain ⟨Ao43, co43, eo43⟩ := Kd.S_slice HO_138000.out; subst eo43) | ((with_reducible refine gate_callee (f := 45) rfl ?_); refine goesL_ (some 34) rfl rfl Tryd.func45 (by kernel_rfl) rfl #[.pointer (some ⟨gb137, 0, none⟩), .agg #[.int .i64 ((rd_T43 l0_1 x18_1).f0), .int .i64 ((rd_T43 l0_1 x18_1).f1), .string ((rd_T43 l0_1 x18_1).f2), .slice A138_3 ((rd_T43 l0_1 x18_1).f3).length c138_3]] rfl (by (try simp only [List.map_toArray, List.map_cons, List.map_nil]); first | done | rfl | (simp only [List.length_drop, List.length_take]; rfl)) ?_; (with_reducible refine (change_row_put.calls w gb137 (.slice Ao43 x138000_1.length co43) x138000_1 k1 x138001_1 ((rd_T43 l0_1 x18_1).f0) ((rd_T43 l0_1 x18_1).f1) ((rd_T43 l0_1 x18_1).f2) _ _ ((rd_T43 l0_1 x18_1).f3) t148 t151 gb134 gb135 gb139 #[.int .i64 a0_0, .slice (some ad138) l0_1.length c0_1] #[.int .i64 0, .slice none 0 0] #[.int .i64 ((rd_T43 l0_1 x18_1).f0), .int .i64 ((rd_T43 l0_1 x18_1).f1), .string ((rd_T43 l0_1 x18_1).f2), .slice A138_3 ((rd_T43 l0_1 x18_1).f3).length c138_3] 43 (by decide) _ ?fB GE137.out GE134.out GE135.out GE139.out ?fm ?f1 ?f2 ?f3 NB137_134.out NB137_135.out NB137_139.out ?fo ?s3 ?s4 A34.out).mono ?_); (case fB => exact (bl HB.out)); (case fm => exact (bk BK137.out)); (case f1 => exact (bk BK134.out)); (case f2 => exact (bk BK135.out)); (case f3 => exact (bp BK139.out)); (case fo => exact (by (with_reducible repeat (first | apply Kd.S_alloc | apply Kd.S_drewN | apply Kd.S_drew)); exact (Kd.S_mono (Kd.S_far (p := ⟨gb139, 3, none⟩) (Kd.S_far (p := ⟨gb139, 2, none⟩) (Kd.S_far (p := ⟨gb139, 1, none⟩) (Kd.S_far (p := ⟨gb139, 0, none⟩) (Kd.S_mono HO_138000.out (fun k_ hk => (⟨hk, hk.2⟩ : _ ∧ k_ ≠ gb139))) (fun _ hk => by first | exact hk.2 | (revert hk; simp +contextual; done)) (.int .i64 ((rd_T43 l0_1 x18_1).f0))) (fun _ hk => by first | exact hk.2 | (revert hk; simp +contextual; done)) (.int .i64 ((rd_T43 l0_1 x18_1).f1))) (fun _ hk => by first | exact hk.2 | (revert hk; simp +contextual; done)) (.string ((rd_T43 l0_1 x18_1).f2))) (fun _ hk => by first | exact hk.2 | (revert hk; simp +contextual; done)) (.slice A138_3 ((rd_T43 l0_1 x18_1).f3).length c138_3)) (fun _ h_ => h_.2)))); (case s3 => exact HR138_3.out); (case s4 => exact HC138_3.out); rintro e w44 ⟨rfl, v149, hbk_, ho_, hb, hq1_, hq2_, hq3_, heq_⟩; rw [← heq_] at hbk_; clear heq_; refine ⟨_, rfl, ?_⟩; have HO_138000 := am True.intro; have HO150 := am (Kd.S_mono (Kd.S_newM (M := fun k_ => (w.heap.size ≤ k_)) ho_ (Nat.le_refl _) (fun k_ h_ => h_)) (fun _ hk => by first | exact hk.1 | (revert hk; simp +contextual; done))); have BK134 := am hq1_; have BK135 := am hq2_; have BK137 := am hbk_; have BK139 := am hq3_; have HB := am hb; clear hbk_ ho_ hq1_ hq2_ hq3_; (try clear hb); (try clear hb2); (try clear hk); (try clear hi); (try clear ho0); obtain ⟨Ao45, co45, eo45⟩ := Kd.S_slice HO150.out; subst eo45))
        go_roundg k1
        case measure => have := HK1.out; omega
        case rel => exact ⟨(wrap64 (x18_1 + 1)), (t148), (t151), (.slice Ao45 t148.length co45), (rs), H', ⟨by have := HK1.out; omega⟩, ⟨by (with_reducible repeat (first | apply Kd.S_alloc | apply Kd.S_drewN | apply Kd.S_drew)); exact Kd.S_mono HO150.out (fun _ hk => by first | exact hk.1.1.1 | (revert hk; simp +contextual; done))⟩, ⟨bk BK134.out⟩, ⟨bk BK135.out⟩, ⟨bk BK137.out⟩, ⟨bl HB.out⟩⟩
       rw [if_neg c33] at H
       have c33b0 : (((rd_T43 l0_1 x18_1).f0) == 2) = false := beq_eq_false_iff_ne.mpr c33
       have c33b1 : (((rd_T43 l0_1 x18_1).f0) != 2) = true := bne_iff_ne.mpr c33
       by_cases c46 : ((rd_T43 l0_1 x18_1).f0) = 3
       ·rw [if_pos c46] at H
        have c46b0 : (((rd_T43 l0_1 x18_1).f0) == 3) = true := beq_iff_eq.mpr c46
        have c46b1 : (((rd_T43 l0_1 x18_1).f0) != 3) = false := bne_eq_false_iff_eq.mpr c46
        clear c46
        have H' := am H
        clear H
        have p138 : 0 ≤ (x18_1 : Int) := oda
        have q138 : x18_1 < (l0_1.length : Int) := oda
        obtain ⟨ad138, A138_3, c138_3, e138, hx138_0, hx138_1, hx138_2, hx138_3, hl138_3, hi138_3⟩ := at_T43 HR0_1.out x18_1 p138 q138
        cases e138
        replace hx138_0 := hbc HB hx138_0
        replace hx138_1 := hbc HB hx138_1
        replace hx138_2 := hbc HB hx138_2
        replace hx138_3 := hbc HB hx138_3
        have HR138_3 := am hi138_3
        have HC138_3 := am hl138_3
        clear hi138_3 hl138_3
        replace p138 := eq_true p138
        replace q138 := eq_true q138
        go_wp2_with (first | ((with_reducible refine gate_dst (N := 7) rfl ?_); (try (refine gate_guard (by rfl) ?_; dsimp only)); refine bev #[.int .i64 0, .int .i64 0, .string (⟨#[]⟩ : ByteArray), .slice none 0 0] 43 ?_; intro gb139 hg w47 hbox hb; have HO_138000 := am (Kd.S_below (Kd.S_elderB (ks HO_138000.out) gb139 (Nat.le_of_eq hg.symm)) hb); have BK139 := am (hbox); have GW139 := am (szl hg (bl HB.out)); have GE139 := am (szl hg (bl HB.out)); have HB := am (below_step (bl HB.out) hb); have NB134_139 := am (nel hg (bk BK134.out)); have NB139_134 := am (neg_ hg (bk BK134.out)); have BK134 := am (blk_below (bk BK134.out) hb); have NB135_139 := am (nel hg (bk BK135.out)); have NB139_135 := am (neg_ hg (bk BK135.out)); have BK135 := am (blk_below (bk BK135.out) hb); have NB137_139 := am (nel hg (bk BK137.out)); have NB139_137 := am (neg_ hg (bk BK137.out)); have BK137 := am (blk_below (bk BK137.out) hb); clear hb hbox hg; have hnb48 := NB139_134.out; have hnc48 := NB134_139.out; have hnb49 := NB139_135.out; have hnc49 := NB135_139.out; have hnb50 := NB139_137.out; have hnc50 := NB137_139.out; obtain ⟨hcz51_0, hcz51_1, hcz51_2, hcz51_3, hfz51_0, hfz51_1, hfz51_2, hfz51_3⟩ := bc4 BK139.out; have hnb52 := NB137_134.out; have hnc52 := NB134_137.out; have hnb53 := NB137_135.out; have hnc53 := NB135_137.out; obtain ⟨hcz54_0, hcz54_1, hfz54_0, hfz54_1⟩ := bc2 BK137.out))
        go_roundg k1
        case measure => have := HK1.out; omega
        case rel => exact ⟨(wrap64 (x18_1 + 1)), (x138000_1), (wrap64 (x138001_1 + ((rd_T43 l0_1 x18_1).f1))), (u138000), (rs), H', ⟨by have := HK1.out; omega⟩, ⟨by (with_reducible repeat (first | apply Kd.S_alloc | apply Kd.S_drewN | apply Kd.S_drew)); exact Kd.S_mono (Kd.S_far (p := ⟨gb137, 1, none⟩) (Kd.S_far (p := ⟨gb139, 3, none⟩) (Kd.S_far (p := ⟨gb139, 2, none⟩) (Kd.S_far (p := ⟨gb139, 1, none⟩) (Kd.S_far (p := ⟨gb139, 0, none⟩) (Kd.S_types (Kd.S_mono HO_138000.out (fun k_ hk => (⟨hk, hk.2⟩ : _ ∧ k_ ≠ gb139))) BK137.out (by decide)) (fun _ hk => by first | exact hk.1.2 | (revert hk; simp +contextual; done)) (.int .i64 ((rd_T43 l0_1 x18_1).f0))) (fun _ hk => by first | exact hk.1.2 | (revert hk; simp +contextual; done)) (.int .i64 ((rd_T43 l0_1 x18_1).f1))) (fun _ hk => by first | exact hk.1.2 | (revert hk; simp +contextual; done)) (.string ((rd_T43 l0_1 x18_1).f2))) (fun _ hk => by first | exact hk.1.2 | (revert hk; simp +contextual; done)) (.slice A138_3 ((rd_T43 l0_1 x18_1).f3).length c138_3)) (fun _ hk => by first | exact hk.2 | (revert hk; simp +contextual; done)) (.int .i64 (wrap64 (x138001_1 + ((rd_T43 l0_1 x18_1).f1))))) (fun _ hk => by first | exact hk.1.1.1 | (revert hk; simp +contextual; done))⟩, ⟨bk BK134.out⟩, ⟨bk BK135.out⟩, ⟨bp BK137.out⟩, ⟨bl HB.out⟩⟩
       rw [if_neg c46] at H
       have c46b0 : (((rd_T43 l0_1 x18_1).f0) == 3) = false := beq_eq_false_iff_ne.mpr c46
       have c46b1 : (((rd_T43 l0_1 x18_1).f0) != 3) = true := bne_iff_ne.mpr c46
       have H' := am H
       clear H
       have p138 : 0 ≤ (x18_1 : Int) := oda
       have q138 : x18_1 < (l0_1.length : Int) := oda
       obtain ⟨ad138, A138_3, c138_3, e138, hx138_0, hx138_1, hx138_2, hx138_3, hl138_3, hi138_3⟩ := at_T43 HR0_1.out x18_1 p138 q138
       cases e138
       replace hx138_0 := hbc HB hx138_0
       replace hx138_1 := hbc HB hx138_1
       replace hx138_2 := hbc HB hx138_2
       replace hx138_3 := hbc HB hx138_3
       have HR138_3 := am hi138_3
       have HC138_3 := am hl138_3
       clear hi138_3 hl138_3
       replace p138 := eq_true p138
       replace q138 := eq_true q138
       go_wp2_with (first | ((with_reducible refine gate_dst (N := 7) rfl ?_); (try (refine gate_guard (by rfl) ?_; dsimp only)); refine bev #[.int .i64 0, .int .i64 0, .string (⟨#[]⟩ : ByteArray), .slice none 0 0] 43 ?_; intro gb139 hg w55 hbox hb; have HO_138000 := am (Kd.S_below (Kd.S_elderB (ks HO_138000.out) gb139 (Nat.le_of_eq hg.symm)) hb); have BK139 := am (hbox); have GW139 := am (szl hg (bl HB.out)); have GE139 := am (szl hg (bl HB.out)); have HB := am (below_step (bl HB.out) hb); have NB134_139 := am (nel hg (bk BK134.out)); have NB139_134 := am (neg_ hg (bk BK134.out)); have BK134 := am (blk_below (bk BK134.out) hb); have NB135_139 := am (nel hg (bk BK135.out)); have NB139_135 := am (neg_ hg (bk BK135.out)); have BK135 := am (blk_below (bk BK135.out) hb); have NB137_139 := am (nel hg (bk BK137.out)); have NB139_137 := am (neg_ hg (bk BK137.out)); have BK137 := am (blk_below (bk BK137.out) hb); clear hb hbox hg; have hnb56 := NB139_134.out; have hnc56 := NB134_139.out; have hnb57 := NB139_135.out; have hnc57 := NB135_139.out; have hnb58 := NB139_137.out; have hnc58 := NB137_139.out; obtain ⟨hcz59_0, hcz59_1, hcz59_2, hcz59_3, hfz59_0, hfz59_1, hfz59_2, hfz59_3⟩ := bc4 BK139.out))
       go_roundg k1
       case measure => have := HK1.out; omega
       case rel => exact ⟨(wrap64 (x18_1 + 1)), (x138000_1), (x138001_1), (u138000), (rs), H', ⟨by have := HK1.out; omega⟩, ⟨by (with_reducible repeat (first | apply Kd.S_alloc | apply Kd.S_drewN | apply Kd.S_drew)); exact Kd.S_mono (Kd.S_far (p := ⟨gb139, 3, none⟩) (Kd.S_far (p := ⟨gb139, 2, none⟩) (Kd.S_far (p := ⟨gb139, 1, none⟩) (Kd.S_far (p := ⟨gb139, 0, none⟩) (Kd.S_mono HO_138000.out (fun k_ hk => (⟨hk, hk.2⟩ : _ ∧ k_ ≠ gb139))) (fun _ hk => by first | exact hk.2 | (revert hk; simp +contextual; done)) (.int .i64 ((rd_T43 l0_1 x18_1).f0))) (fun _ hk => by first | exact hk.2 | (revert hk; simp +contextual; done)) (.int .i64 ((rd_T43 l0_1 x18_1).f1))) (fun _ hk => by first | exact hk.2 | (revert hk; simp +contextual; done)) (.string ((rd_T43 l0_1 x18_1).f2))) (fun _ hk => by first | exact hk.2 | (revert hk; simp +contextual; done)) (.slice A138_3 ((rd_T43 l0_1 x18_1).f3).length c138_3)) (fun _ hk => by first | exact hk.1.1 | (revert hk; simp +contextual; done))⟩, ⟨bk BK134.out⟩, ⟨bk BK135.out⟩, ⟨bk BK137.out⟩, ⟨bl HB.out⟩⟩
      rw [if_neg c14] at H
      exact absurd H (by simp)
     rw [if_neg c13] at H
     exact absurd H (by simp)
    rw [if_neg c12] at H
    have c12b0 : decide (x18_1 < (l0_1.length : Int)) = false := decide_eq_false c12
    clear c12
    replace H := Option.bind_eq_some_iff.mp H
    obtain ⟨⟨t152, t155⟩, A600, H⟩ := H
    replace H : (if (t152.length : Int) > 0 then (if 0 ≤ (wrap64 ((t152.length : Int) - 1)) then (if (wrap64 ((t152.length : Int) - 1)) < (t152.length : Int) then (if ((rd_T43 t152 (wrap64 ((t152.length : Int) - 1))).f0) = 1 then (change_Normal.j1 k1 (t152.length : Int) ((((rd_T43 t152 (wrap64 ((t152.length : Int) - 1))).f3).length : Int) == 0) a0_0 l0_1 t152 t155) else (change_Normal.j1 k1 (t152.length : Int) false a0_0 l0_1 t152 t155)) else (none)) else (none)) else (change_Normal.j1 k1 (t152.length : Int) false a0_0 l0_1 t152 t155)) = some (r1, r2, r3) := H
    have A60 := am A600
    clear A600
    have HC61 := am H
    clear H
    have hnb62 := NB137_134.out
    have hnc62 := NB134_137.out
    have hnb63 := NB137_135.out
    have hnc63 := NB135_137.out
    have hcz64_0 : wr.cell? ⟨gb137, 0, none⟩ = some (u138000) := (blk_cell BK137.out 0).trans rfl
    have hcz64_1 : wr.cell? ⟨gb137, 1, none⟩ = some (.int .i64 x138001_1) := (blk_cell BK137.out 1).trans rfl
    have hfz64_0 := blk_frozen BK137.out 0
    have hfz64_1 := blk_frozen BK137.out 1
    obtain ⟨Ao65, co65, eo65⟩ := Kd.S_slice HO_138000.out
    subst eo65
    go_upto_region 19 with (first | ((with_reducible refine gate_callee (f := 44) rfl ?_); refine goesL_ (some 44) rfl rfl Tryd.func44 (by kernel_rfl) rfl #[.pointer (some ⟨gb137, 0, none⟩)] rfl (by (try simp only [List.map_toArray, List.map_cons, List.map_nil]); first | done | rfl | (simp only [List.length_drop, List.length_take]; rfl)) ?_; (with_reducible refine (change_maker_flush.calls w gb137 (.slice Ao65 x138000_1.length co65) x138000_1 k1 x138001_1 t152 t155 gb134 gb135 gb134 #[.int .i64 a0_0, .slice A0_1 l0_1.length c0_1] #[.int .i64 0, .slice none 0 0] #[.int .i64 a0_0, .slice A0_1 l0_1.length c0_1] 26 (by decide) _ ?fB GE137.out GE134.out GE135.out GE134.out ?fm ?f1 ?f2 ?f3 NB137_134.out NB137_135.out NB137_134.out ?fo A60.out).mono ?_); (case fB => exact (bl HB.out)); (case fm => exact (bk BK137.out)); (case f1 => exact (bk BK134.out)); (case f2 => exact (bk BK135.out)); (case f3 => exact (bk BK134.out)); (case fo => exact (by exact Kd.S_mono (Kd.S_types (ks HO_138000.out) (bk BK134.out) (by decide)) (fun _ hk => by first | exact hk.2 | (revert hk; simp +contextual; done)))); rintro e w66 ⟨rfl, v153, hbk_, ho_, hb, hq1_, hq2_, hq3_⟩; refine ⟨_, rfl, ?_⟩; have HO_138000 := am True.intro; have HO154 := am (Kd.S_mono (Kd.S_newM (M := fun k_ => (w.heap.size ≤ k_)) ho_ (Nat.le_refl _) (fun k_ h_ => h_)) (fun _ hk => by first | exact hk.1 | (revert hk; simp +contextual; done))); have BK134 := am hq1_; have BK135 := am hq2_; have BK137 := am hbk_; have HB := am hb; clear hbk_ ho_ hq1_ hq2_ hq3_; (try clear hb); (try clear hb2); (try clear hk); (try clear hi); (try clear ho0); obtain ⟨Ao67, co67, eo67⟩ := Kd.S_slice HO154.out; subst eo67; obtain ⟨hcz68_0, hcz68_1, hfz68_0, hfz68_1⟩ := bc2 BK137.out))
    (try simp only [Act.put, List.setIfInBounds_toArray, List.set_cons_zero, List.set_cons_succ])
    go_cut [73] (fun v73 wc => ∃ (kq : Nat) (x73_60 : Bool), v73 = .bool x73_60 ∧ Aside0 (change_Normal.j1 kq (t152.length : Int) x73_60 a0_0 l0_1 t152 t155 = some (r1, r2, r3)) ∧ Aside0 (kq ≤ k1) ∧ Aside0 (Kd.S k43 43 wc w.heap.size (fun k_ => (w.heap.size ≤ k_)) (.slice Ao67 t152.length co67) t152) ∧ Aside0 (wc.heap[gb134]? = some (.cells #[.int .i64 a0_0, (.slice A0_1 l0_1.length c0_1)] 26 (0, 0))) ∧ Aside0 (wc.heap[gb135]? = some (.cells #[.int .i64 0, (.slice none 0 0)] 26 (0, 0))) ∧ Aside0 (wc.heap[gb137]? = some (.cells #[(.slice Ao67 t152.length co67), .int .i64 t155] 65 (0, 0))) ∧ Aside0 (Below w.heap.size w wc))
    case first =>
     have H := HC61.out
     clear HC61
     by_cases c69 : (t152.length : Int) > 0
     ·rw [if_pos c69] at H
      have c69b0 : decide (0 < (t152.length : Int)) = true := decide_eq_true c69
      have c69b1 : decide (0 < t152.length) = true := decide_eq_true (by omega)
      clear c69
      (first | rw [c69b0] | (simp only [i64_w, i32_w]; rw [c69b0]) | skip)
      obtain ⟨ji70, hji70⟩ : ∃ j_ : Int, (wrap64 ((t152.length : Int) - 1)) = j_ := ⟨_, rfl⟩
      replace H : (if 0 ≤ (ji70) then (if (ji70) < (t152.length : Int) then (if ((rd_T43 t152 (ji70)).f0) = 1 then (change_Normal.j1 k1 (t152.length : Int) ((((rd_T43 t152 (ji70)).f3).length : Int) == 0) a0_0 l0_1 t152 t155) else (change_Normal.j1 k1 (t152.length : Int) false a0_0 l0_1 t152 t155)) else (none)) else (none)) = some (r1, r2, r3) := by first | (rw [hji70] at H; exact H) | (simp only [hji70] at H ⊢; exact H)
      have hji70w : (IntKind.i64.wrap ((t152.length : Int) - 1)) = ji70 := (i64_w _).trans hji70
      by_cases c71 : 0 ≤ (ji70)
      ·rw [if_pos c71] at H
       have c71b0 : decide (0 ≤ (ji70)) = true := decide_eq_true c71
       clear c71
       by_cases c72 : (ji70) < (t152.length : Int)
       ·rw [if_pos c72] at H
        have c72b0 : decide ((ji70) < (t152.length : Int)) = true := decide_eq_true c72
        clear c72
        by_cases c73 : ((rd_T43 t152 (ji70)).f0) = 1
        ·rw [if_pos c73] at H
         have c73b0 : (((rd_T43 t152 (ji70)).f0) == 1) = true := beq_iff_eq.mpr c73
         have c73b1 : (((rd_T43 t152 (ji70)).f0) != 1) = false := bne_eq_false_iff_eq.mpr c73
         clear c73
         have H' := am H
         clear H
         have hnb74 := NB137_134.out
         have hnc74 := NB134_137.out
         have hnb75 := NB137_135.out
         have hnc75 := NB135_137.out
         have hcz76_0 : w66.cell? ⟨gb137, 0, none⟩ = some (.slice Ao67 t152.length co67) := (blk_cell BK137.out 0).trans rfl
         have hcz76_1 : w66.cell? ⟨gb137, 1, none⟩ = some (.int .i64 t155) := (blk_cell BK137.out 1).trans rfl
         have hfz76_0 := blk_frozen BK137.out 0
         have hfz76_1 := blk_frozen BK137.out 1
         have p156 : 0 ≤ ((ji70) : Int) := oda
         have q156 : (ji70) < (t152.length : Int) := oda
         obtain ⟨ad156, A156_3, c156_3, e156, hx156_0, hx156_1, hx156_2, hx156_3, hl156_3, hi156_3⟩ := at_T43 (Kd.S_reads' HO154.out).2.2 (ji70) p156 q156
         cases e156
         obtain ⟨ce156, hce156, hMe156, hcc156⟩ := Kd.S_get HO154.out z43 (ji70) p156 (by first | exact q156 | exact oda | (have e_ := (Kd.S_reads' HO154.out).1; omega))
         obtain ⟨ve156_3, rfl, ge156_3⟩ := k43_openM hMe156
         have hv156_3 := hcc156 3 _ rfl
         rw [add_field _ _ 3 (by omega)] at hv156_3
         replace hv156_3 := Option.some.inj (hv156_3.symm.trans hx156_3)
         rw [hv156_3] at ge156_3
         have HL156_3 := am (show Kd.R k90 90 _ _ _ _ ((rd_T43 t152 (ji70)).f3) from ge156_3)
         clear hv156_3 ge156_3
         clear hcc156 hce156
         have HR156_3 := am hi156_3
         have HC156_3 := am hl156_3
         clear hi156_3 hl156_3
         replace p156 := eq_true p156
         replace q156 := eq_true q156
         have p157 : 0 ≤ ((ji70) : Int) := oda
         have q157 : (ji70) < (t152.length : Int) := oda
         obtain ⟨ad157, A157_3, c157_3, e157, hx157_0, hx157_1, hx157_2, hx157_3, hl157_3, hi157_3⟩ := at_T43 (Kd.S_reads' HO154.out).2.2 (ji70) p157 q157
         obtain rfl : ad156 = ad157 := (by injection e157)
         obtain ⟨ce157, hce157, hMe157, hcc157⟩ := Kd.S_get HO154.out z43 (ji70) p157 (by first | exact q157 | exact oda | (have e_ := (Kd.S_reads' HO154.out).1; omega))
         obtain ⟨ve157_3, rfl, ge157_3⟩ := k43_openM hMe157
         have hv157_3 := hcc157 3 _ rfl
         rw [add_field _ _ 3 (by omega)] at hv157_3
         replace hv157_3 := Option.some.inj (hv157_3.symm.trans hx157_3)
         rw [hv157_3] at ge157_3
         have HL157_3 := am (show Kd.R k90 90 _ _ _ _ ((rd_T43 t152 (ji70)).f3) from ge157_3)
         clear hv157_3 ge157_3
         clear hcc157 hce157
         have HR157_3 := am hi157_3
         have HC157_3 := am hl157_3
         clear hi157_3 hl157_3
         replace p157 := eq_true p157
         replace q157 := eq_true q157
         have ea_ := Option.some.inj (hx156_3.symm.trans hx157_3)
         injection ea_ with ea_ en_ ec_
         subst ea_
         subst ec_
         clear en_
         go_wp2
         go_meet
         case rel => exact ⟨_, (((((rd_T43 t152 (ji70)).f3).length : Int) == 0)), (by first | rfl | (simp; done) | (simp only [← hji70] <;> (first | rfl | simp)) | (simp [*]; done)), H', ⟨by have := HK1.out; first | omega | exact Nat.le_refl _⟩, ⟨by (with_reducible repeat (first | apply Kd.S_alloc | apply Kd.S_drewN | apply Kd.S_drew)); exact Kd.S_mono HO154.out (fun _ hk => by first | exact hk.1.1 | (revert hk; simp +contextual; done))⟩, ⟨bk BK134.out⟩, ⟨bk BK135.out⟩, ⟨bk BK137.out⟩, ⟨bl HB.out⟩⟩
        rw [if_neg c73] at H
        have c73b0 : (((rd_T43 t152 (ji70)).f0) == 1) = false := beq_eq_false_iff_ne.mpr c73
        have c73b1 : (((rd_T43 t152 (ji70)).f0) != 1) = true := bne_iff_ne.mpr c73
        have H' := am H
        clear H
        have hnb77 := NB137_134.out
        have hnc77 := NB134_137.out
        have hnb78 := NB137_135.out
        have hnc78 := NB135_137.out
        have hcz79_0 : w66.cell? ⟨gb137, 0, none⟩ = some (.slice Ao67 t152.length co67) := (blk_cell BK137.out 0).trans rfl
        have hcz79_1 : w66.cell? ⟨gb137, 1, none⟩ = some (.int .i64 t155) := (blk_cell BK137.out 1).trans rfl
        have hfz79_0 := blk_frozen BK137.out 0
        have hfz79_1 := blk_frozen BK137.out 1
        have p156 : 0 ≤ ((ji70) : Int) := oda
        have q156 : (ji70) < (t152.length : Int) := oda
        obtain ⟨ad156, A156_3, c156_3, e156, hx156_0, hx156_1, hx156_2, hx156_3, hl156_3, hi156_3⟩ := at_T43 (Kd.S_reads' HO154.out).2.2 (ji70) p156 q156
        cases e156
        obtain ⟨ce156, hce156, hMe156, hcc156⟩ := Kd.S_get HO154.out z43 (ji70) p156 (by first | exact q156 | exact oda | (have e_ := (Kd.S_reads' HO154.out).1; omega))
        obtain ⟨ve156_3, rfl, ge156_3⟩ := k43_openM hMe156
        have hv156_3 := hcc156 3 _ rfl
        rw [add_field _ _ 3 (by omega)] at hv156_3
        replace hv156_3 := Option.some.inj (hv156_3.symm.trans hx156_3)
        rw [hv156_3] at ge156_3
        have HL156_3 := am (show Kd.R k90 90 _ _ _ _ ((rd_T43 t152 (ji70)).f3) from ge156_3)
        clear hv156_3 ge156_3
        clear hcc156 hce156
        have HR156_3 := am hi156_3
        have HC156_3 := am hl156_3
        clear hi156_3 hl156_3
        replace p156 := eq_true p156
        replace q156 := eq_true q156
        go_wp2
        go_meet
        case rel => exact ⟨_, (false), (rs), H', ⟨by have := HK1.out; first | omega | exact Nat.le_refl _⟩, ⟨by (with_reducible repeat (first | apply Kd.S_alloc | apply Kd.S_drewN | apply Kd.S_drew)); exact Kd.S_mono HO154.out (fun _ hk => by first | exact hk.1.1 | (revert hk; simp +contextual; done))⟩, ⟨bk BK134.out⟩, ⟨bk BK135.out⟩, ⟨bk BK137.out⟩, ⟨bl HB.out⟩⟩
       rw [if_neg c72] at H
       exact absurd H (by simp)
      rw [if_neg c71] at H
      exact absurd H (by simp)
     rw [if_neg c69] at H
     have c69b0 : decide (0 < (t152.length : Int)) = false := decide_eq_false c69
     have c69b1 : decide (0 < t152.length) = false := decide_eq_false (by omega)
     clear c69
     (first | rw [c69b0] | (simp only [i64_w, i32_w]; rw [c69b0]) | skip)
     have H' := am H
     clear H
     go_wp2
     go_meet
     case rel => exact ⟨_, (false), (rs), H', ⟨by have := HK1.out; first | omega | exact Nat.le_refl _⟩, ⟨by (with_reducible repeat (first | apply Kd.S_alloc | apply Kd.S_drewN | apply Kd.S_drew)); exact Kd.S_mono HO154.out (fun _ hk => by first | exact hk.1.1 | (revert hk; simp +contextual; done))⟩, ⟨bk BK134.out⟩, ⟨bk BK135.out⟩, ⟨bk BK137.out⟩, ⟨bl HB.out⟩⟩
    case rest =>
     clear HC61
     try clear c1; try clear p1; try clear q1; try clear hx1; try clear c2; try clear p2; try clear c3; try clear c3b0; try clear c3b1; try clear c4; try clear c5; try clear c6; try clear p6; try clear c7; try clear c10; try clear c12; try clear c12b0; try clear c13; try clear c13b0; try clear p13; try clear q13; try clear hx13; try clear c14; try clear c14b0; try clear c15; try clear c15b0; try clear c15b1; try clear p15; try clear q15; try clear hx15; try clear c19; try clear c20; try clear c21; try clear c23; try clear c24; try clear c25; try clear c33; try clear c33b0; try clear c33b1; try clear c36; try clear c37; try clear c38; try clear c40; try clear c41; try clear c44; try clear c45; try clear c46; try clear c46b0; try clear c46b1; try clear c48; try clear c49; try clear c50; try clear c52; try clear c53; try clear c56; try clear c57; try clear c58; try clear c62; try clear c63; try clear p64; try clear c69; try clear c69b0; try clear c69b1; try clear c71; try clear c71b0; try clear c72; try clear c72b0; try clear c73; try clear c73b0; try clear c73b1; try clear c74; try clear c75; try clear c77; try clear c78; try clear hcz11_0; try clear hcz11_1; try clear hcz22_0; try clear hcz22_1; try clear hcz22_2; try clear hcz22_3; try clear hcz25_0; try clear hcz25_1; try clear hcz29_0; try clear hcz29_1; try clear hcz29_2; try clear hcz29_3; try clear hcz30_0; try clear hcz30_1; try clear hcz39_0; try clear hcz39_1; try clear hcz39_2; try clear hcz39_3; try clear hcz42_0; try clear hcz42_1; try clear hcz51_0; try clear hcz51_1; try clear hcz51_2; try clear hcz51_3; try clear hcz54_0; try clear hcz54_1; try clear hcz59_0; try clear hcz59_1; try clear hcz59_2; try clear hcz59_3; try clear hcz64_0; try clear hcz64_1; try clear hcz68_0; try clear hcz68_1; try clear hcz76_0; try clear hcz76_1; try clear hcz79_0; try clear hcz79_1; try clear hcz7_0; try clear hcz7_1; try clear hfz11_0; try clear hfz11_1; try clear hfz22_0; try clear hfz22_1; try clear hfz22_2; try clear hfz22_3; try clear hfz25_0; try clear hfz25_1; try clear hfz29_0; try clear hfz29_1; try clear hfz29_2; try clear hfz29_3; try clear hfz30_0; try clear hfz30_1; try clear hfz39_0; try clear hfz39_1; try clear hfz39_2; try clear hfz39_3; try clear hfz42_0; try clear hfz42_1; try clear hfz51_0; try clear hfz51_1; try clear hfz51_2; try clear hfz51_3; try clear hfz54_0; try clear hfz54_1; try clear hfz59_0; try clear hfz59_1; try clear hfz59_2; try clear hfz59_3; try clear hfz64_0; try clear hfz64_1; try clear hfz68_0; try clear hfz68_1; try clear hfz76_0; try clear hfz76_1; try clear hfz79_0; try clear hfz79_1; try clear hfz7_0; try clear hfz7_1; try clear hx138_0; try clear hx138_1; try clear hx138_2; try clear hx138_3; try clear hx156_0; try clear hx156_1; try clear hx156_2; try clear hx156_3; try clear hx157_0; try clear hx157_1; try clear hx157_2; try clear hx157_3; try clear p138; try clear p156; try clear p157; try clear p2; try clear q138; try clear q156; try clear q157
     obtain ⟨kq, x73_60, rfl, HA, HJ60, HO_138000, BK134, BK135, BK137, HB⟩ := hcut
     cases kq with
     | zero => exact absurd HA.out (by simp [change_Normal.j1])
     | succ kj60 =>
      have H := HA.out
      clear HA
      simp only [change_Normal.j1] at H
      have HC80 := am H
      clear H
      go_upto_if 73 with (fail)
      go_cut [] (fun wc => ∃ (kq : Nat) (x138000_79 : List (S43)) (u138000 : Value), Aside0 (change_Normal.j2 kq a0_0 l0_1 x138000_79 t155 = some (r1, r2, r3)) ∧ Aside0 (kq ≤ kj60) ∧ Aside0 (Kd.S k43 43 wc w.heap.size (fun k_ => (w.heap.size ≤ k_)) u138000 x138000_79) ∧ Aside0 (wc.heap[gb134]? = some (.cells #[.int .i64 a0_0, (.slice A0_1 l0_1.length c0_1)] 26 (0, 0))) ∧ Aside0 (wc.heap[gb135]? = some (.cells #[.int .i64 0, (.slice none 0 0)] 26 (0, 0))) ∧ Aside0 (wc.heap[gb137]? = some (.cells #[u138000, .int .i64 t155] 65 (0, 0))) ∧ Aside0 (Below w.heap.size w wc))
      case first =>
       have H := HC80.out
       clear HC80
       by_cases c81 : x73_60 = true
       ·subst c81
        have H1 : (if 0 ≤ (wrap64 ((t152.length : Int) - 1)) then (if (wrap64 ((t152.length : Int) - 1)) ≤ (t152.length : Int) then (change_Normal.j2 kj60 a0_0 l0_1 (t152.take ((wrap64 ((t152.length : Int) - 1)) : Int).toNat) t155) else (none)) else (none)) = some (r1, r2, r3) := by rw [if_pos rfl] at H; exact H
        clear H
        have H := H1
        clear H1
        obtain ⟨ji82, hji82⟩ : ∃ j_ : Int, (wrap64 ((t152.length : Int) - 1)) = j_ := ⟨_, rfl⟩
        replace H : (if 0 ≤ (ji82) then (if (ji82) ≤ (t152.length : Int) then (change_Normal.j2 kj60 a0_0 l0_1 (t152.take ((ji82) : Int).toNat) t155) else (none)) else (none)) = some (r1, r2, r3) := by first | (rw [hji82] at H; exact H) | (simp only [hji82] at H ⊢; exact H)
        have hji82w : (IntKind.i64.wrap ((t152.length : Int) - 1)) = ji82 := (i64_w _).trans hji82
        by_cases c83 : 0 ≤ (ji82)
        ·rw [if_pos c83] at H
         have c83b0 := eq_true c83
         have c83b1 : decide (0 ≤ (ji82)) = true := decide_eq_true c83
         clear c83
         by_cases c84 : (ji82) ≤ (t152.length : Int)
         ·rw [if_pos c84] at H
          have c84b0 := eq_true c84
          have c84b1 : decide ((ji82) ≤ (t152.length : Int)) = true := decide_eq_true c84
          clear c84
          obtain ⟨y158, hy158⟩ : ∃ y_ : List (S43), y_ = (t152.take ((ji82) : Int).toNat) := ⟨_, rfl⟩
          replace H : (change_Normal.j2 kj60 a0_0 l0_1 y158 t155) = some (r1, r2, r3) := by first | (rw [hy158]; with_reducible exact H) | (have H2_ := (Option.bind_some _ _).symm.trans H; rw [hy158]; with_reducible exact H2_) | (have H2_ := (Option.bind_some _ _).symm.trans H; with_reducible exact H2_) | with_reducible exact H | (rw [hy158]; exact H) | exact H
          have Ny158 := am hy158
          clear hy158
          have H' := am H
          clear H
          have hnb85 := NB137_134.out
          have hnc85 := NB134_137.out
          have hnb86 := NB137_135.out
          have hnc86 := NB135_137.out
          have hcz87_0 : wc.cell? ⟨gb137, 0, none⟩ = some (.slice Ao67 t152.length co67) := (blk_cell BK137.out 0).trans rfl
          have hcz87_1 : wc.cell? ⟨gb137, 1, none⟩ = some (.int .i64 t155) := (blk_cell BK137.out 1).trans rfl
          have hfz87_0 := blk_frozen BK137.out 0
          have hfz87_1 := blk_frozen BK137.out 1
          have q88 : ((ji82) : Int) ≤ ((t152.length : Int) : Int) := oda
          obtain ⟨i088, hi088, _, hsz88, _⟩ := info_parts info43
          have hcut88 := cut_to (P := Tryd.prog) 24 43 .i64 Tryd.underlying24 hi088 Ao67 t152.length co67 (ji82) (oda) q88 (Kd.S_reads' HO_138000.out).2.1
          have hr88 := Kd.S_take (m := ((ji82) : Int).toNat) HO_138000.out (by omega)
          have hy88 : y158.length = ((ji82) : Int).toNat := (by rw [Ny158.out, List.length_take]; omega)
          rw [← Ny158.out] at hr88
          rw [← hy88] at hr88 hcut88
          clear hy88 hi088 hsz88 HO_138000
          have HO160 := am hr88
          clear hr88
          replace q88 := eq_true q88
          go_wp2
          go_meet
          case rel => exact ⟨_, (y158), (.slice Ao67 y158.length co67), H', ⟨by have := HK1.out; have := HJ60.out; first | omega | exact Nat.le_refl _⟩, ⟨by (with_reducible repeat (first | apply Kd.S_alloc | apply Kd.S_drewN | apply Kd.S_drew)); exact Kd.S_mono (Kd.S_far (p := ⟨gb137, 0, none⟩) (Kd.S_types HO160.out BK137.out (by decide)) (fun _ hk => by first | exact hk.2 | (revert hk; simp +contextual; done)) (.slice Ao67 y158.length co67)) (fun _ hk => by first | exact hk.1 | (revert hk; simp +contextual; done))⟩, ⟨bk BK134.out⟩, ⟨bk BK135.out⟩, ⟨bp BK137.out⟩, ⟨bl HB.out⟩⟩
         rw [if_neg c84] at H
         exact absurd H (by simp)
        rw [if_neg c83] at H
        exact absurd H (by simp)
       replace c81 := Bool.eq_false_iff.mpr c81
       subst c81
       have H1 : (change_Normal.j2 kj60 a0_0 l0_1 t152 t155) = some (r1, r2, r3) := by rw [if_neg (show ¬ (false = true) by decide)] at H; exact H
       clear H
       have H := H1
       clear H1
       have H' := am H
       clear H
       go_wp2
       go_meet
       case rel => exact ⟨_, (t152), (.slice Ao67 t152.length co67), H', ⟨by have := HK1.out; have := HJ60.out; first | omega | exact Nat.le_refl _⟩, ⟨ks HO_138000.out⟩, ⟨bk BK134.out⟩, ⟨bk BK135.out⟩, ⟨bk BK137.out⟩, ⟨bl HB.out⟩⟩
      case rest =>
       clear HC80
       try clear c1; try clear p1; try clear q1; try clear hx1; try clear c2; try clear p2; try clear c3; try clear c3b0; try clear c3b1; try clear c4; try clear c5; try clear c6; try clear p6; try clear c7; try clear c8; try clear q8; try clear c10; try clear c12; try clear c12b0; try clear c13; try clear c13b0; try clear p13; try clear q13; try clear hx13; try clear c14; try clear c14b0; try clear c15; try clear c15b0; try clear c15b1; try clear p15; try clear q15; try clear hx15; try clear c19; try clear c20; try clear c21; try clear c23; try clear c24; try clear c25; try clear c33; try clear c33b0; try clear c33b1; try clear c36; try clear c37; try clear c38; try clear c40; try clear c41; try clear c44; try clear c45; try clear c46; try clear c46b0; try clear c46b1; try clear c48; try clear c49; try clear c50; try clear c52; try clear c53; try clear c56; try clear c57; try clear c58; try clear c62; try clear c63; try clear p64; try clear c69; try clear c69b0; try clear c69b1; try clear c71; try clear c71b0; try clear c72; try clear c72b0; try clear c73; try clear c73b0; try clear c73b1; try clear c74; try clear c75; try clear c77; try clear c78; try clear c81; try clear c83; try clear c83b0; try clear c83b1; try clear c84; try clear c84b0; try clear c84b1; try clear c85; try clear c86; try clear q88; try clear hcz11_0; try clear hcz11_1; try clear hcz22_0; try clear hcz22_1; try clear hcz22_2; try clear hcz22_3; try clear hcz25_0; try clear hcz25_1; try clear hcz29_0; try clear hcz29_1; try clear hcz29_2; try clear hcz29_3; try clear hcz30_0; try clear hcz30_1; try clear hcz39_0; try clear hcz39_1; try clear hcz39_2; try clear hcz39_3; try clear hcz42_0; try clear hcz42_1; try clear hcz51_0; try clear hcz51_1; try clear hcz51_2; try clear hcz51_3; try clear hcz54_0; try clear hcz54_1; try clear hcz59_0; try clear hcz59_1; try clear hcz59_2; try clear hcz59_3; try clear hcz64_0; try clear hcz64_1; try clear hcz68_0; try clear hcz68_1; try clear hcz76_0; try clear hcz76_1; try clear hcz79_0; try clear hcz79_1; try clear hcz7_0; try clear hcz7_1; try clear hcz87_0; try clear hcz87_1; try clear hfz11_0; try clear hfz11_1; try clear hfz22_0; try clear hfz22_1; try clear hfz22_2; try clear hfz22_3; try clear hfz25_0; try clear hfz25_1; try clear hfz29_0; try clear hfz29_1; try clear hfz29_2; try clear hfz29_3; try clear hfz30_0; try clear hfz30_1; try clear hfz39_0; try clear hfz39_1; try clear hfz39_2; try clear hfz39_3; try clear hfz42_0; try clear hfz42_1; try clear hfz51_0; try clear hfz51_1; try clear hfz51_2; try clear hfz51_3; try clear hfz54_0; try clear hfz54_1; try clear hfz59_0; try clear hfz59_1; try clear hfz59_2; try clear hfz59_3; try clear hfz64_0; try clear hfz64_1; try clear hfz68_0; try clear hfz68_1; try clear hfz76_0; try clear hfz76_1; try clear hfz79_0; try clear hfz79_1; try clear hfz7_0; try clear hfz7_1; try clear hfz87_0; try clear hfz87_1; try clear hx138_0; try clear hx138_1; try clear hx138_2; try clear hx138_3; try clear hx156_0; try clear hx156_1; try clear hx156_2; try clear hx156_3; try clear hx157_0; try clear hx157_1; try clear hx157_2; try clear hx157_3; try clear p1; try clear p13; try clear p138; try clear p15; try clear p156; try clear p157; try clear p2; try clear p6; try clear p64; try clear q1; try clear q13; try clear q138; try clear q15; try clear q156; try clear q157; try clear q88
       obtain ⟨kq, x138000_79, u138000, HA, HJ79, HO_138000, BK134, BK135, BK137, HB⟩ := hcut
       cases kq with
       | zero => exact absurd HA.out (by simp [change_Normal.j2])
       | succ kj79 =>
        have H := HA.out
        clear HA
        simp only [change_Normal.j2] at H
        replace H := Option.bind_eq_some_iff.mp H
        obtain ⟨t161, A890, H⟩ := H
        replace H : (some (a0_0, t161, 0)) = some (r1, r2, r3) := H
        have A89 := am A890
        clear A890
        simp only [Option.some.injEq, Prod.mk.injEq] at H
        obtain ⟨rfl, rfl, rfl⟩ := H
        try go_wp2
        have n0_ := am (Kd.S_drew HO_138000.out)
        have n1_ := am (blk_drew BK134.out)
        have n2_ := am (blk_drew BK135.out)
        have n3_ := am (blk_drew BK137.out)
        have n4_ := am (below_drew1 HB.out)
        clear HO_138000
        clear BK134
        clear BK135
        clear BK137
        clear HB
        have HO_138000 := n0_
        have BK134 := n1_
        have BK135 := n2_
        have BK137 := n3_
        have HB := n4_
        clear n0_ n1_ n2_ n3_ n4_
        obtain ⟨Ao91, co91, eo91⟩ := Kd.S_slice HO_138000.out
        (first | subst eo91 | (injection eo91 with f1_ f2_ f3_; have f4_ := f1_.symm; have f5_ := f3_.symm; clear f1_ f2_ f3_; subst f4_; subst f5_))
        refine start_ (n := 9) (S := fun w' => w'.cell? ⟨gb134, 0, none⟩ = some (.int .i64 a0_0) ∧ w'.cell? ⟨gb134, 1, none⟩ = some (.slice A0_1 l0_1.length c0_1) ∧ w'.cell? ⟨gb137, 0, none⟩ = some (.slice Ao91 x138000_79.length co91) ∧ w'.cell? ⟨gb137, 1, none⟩ = some (.int .i64 t155)) (ds := []) #[false, false, false, false, false, false, false, false, false] (by kernel_rfl) rfl rfl ⟨(blk_cell BK134.out 0).trans rfl, (blk_cell BK134.out 1).trans rfl, (blk_cell BK137.out 0).trans rfl, (blk_cell BK137.out 1).trans rfl⟩ (fun hHeld => ?_); refine with_tabW change_Normal.tab21 change_Normal.bits21 (fun HT_ HW_ => ?_)
        generalize wc.drew = w90 at HO_138000 BK134 BK135 BK137 HB hHeld ⊢
        refine pu 0 82 HT_ ?_
        refine pu 2 84 HT_ ?_
        refine pu 3 85 HT_ ?_
        refine tk 1 83 HT_ HW_ hHeld ?_
        refine tk 4 86 HT_ HW_ hHeld ?_
        refine one_ (i := 5) (N := some 87) #[true, true, true, true, true, true, false, false, false] rfl rfl (one_of HT_.out (by kernel_rfl)) (by decide) (fun K hK => ?_)
        refine goes_ Tryd.func46 (by kernel_rfl) rfl #[.slice Ao91 x138000_79.length co91] (by rfl) rfl rfl (by (try simp only [List.map_toArray, List.map_cons, List.map_nil]); first | done | rfl | (simp only [List.length_drop, List.length_take]; rfl)) ?_
        with_reducible refine (slices_Clip.calls _ _ x138000_79 t161 _ ?side1 ?side2 A89.out).mono ?_
        (case side1 => repeat (first | exact (Kd.S_reads' HO_138000.out).2.2 | (with_reducible refine Kd.C_alloc ?_ _) | (with_reducible refine Kd.C_drewN ?_ _) | (with_reducible refine Kd.C_drew ?_)))
        (case side2 => exact (Kd.S_reads' HO_138000.out).2.1)
        rintro e w92 ⟨he_, hb⟩
        have hq_ : t161 = x138000_79 := (Option.some.inj A89.out).symm
        obtain ⟨v162, hv_⟩ : ∃ v_ : Value, v_ = .slice Ao91 t161.length t161.length := ⟨_, rfl⟩
        rw [← hv_] at he_
        subst he_
        refine ⟨_, rfl, ?_⟩
        have n0_ := am (Kd.S_below (ks HO_138000.out) hb)
        have n2_ := am (blk_below (bk BK134.out) hb)
        have n3_ := am (blk_below (bk BK135.out) hb)
        have n4_ := am (blk_below (bk BK137.out) hb)
        have n5_ := am (below_step (bl HB.out) hb)
        have n1_ := am (show Kd.V k43 43 _ w.heap.size (fun k_ => (w.heap.size ≤ k_) ∧ True ∧ k_ ≠ gb134 ∧ k_ ≠ gb135 ∧ k_ ≠ gb137) v162 t161 from (by rw [hv_, hq_]; exact clip_V (Kd.S_V (Kd.S_mono (Kd.S_types (Kd.S_types (Kd.S_types (Kd.S_below (ks HO_138000.out) hb) n2_.out (by decide)) n3_.out (by decide)) n4_.out (by decide)) (fun k_ hk => ⟨hk.1.1.1, trivial, hk.1.1.2, hk.1.2, hk.2⟩)))))
        clear hv_ hq_
        clear HO_138000
        clear BK134
        clear BK135
        clear BK137
        clear HB
        have HO_138000 := n0_
        have HO163 := n1_
        have BK134 := n2_
        have BK135 := n3_
        have BK137 := n4_
        have HB := n5_
        clear n0_ n1_ n2_ n3_ n4_ n5_
        (try clear hb)
        (try clear hb2)
        (try clear hk)
        (try clear hi)
        (try clear ho0)
        obtain ⟨Ao93, co93, eo93⟩ := Kd.V_slice HO163.out
        (first | subst eo93 | (injection eo93 with f1_ f2_ f3_; have f4_ := f1_.symm; have f5_ := f3_.symm; clear f1_ f2_ f3_; subst f4_; subst f5_))
        refine hK.out _ _ ⟨(blk_cell BK134.out 0).trans rfl, (blk_cell BK134.out 1).trans rfl, (blk_cell BK137.out 0).trans rfl, (blk_cell BK137.out 1).trans rfl⟩ (fun hHeld => ?_)
        clear hK K
        refine norm_ (a' := ?_) ?_ ?_
        rotate_left
        ·show Act.put _ (some 87) _ = _
         simp only [Act.put, List.setIfInBounds_toArray, List.set_cons_zero, List.set_cons_succ, i64_w, i32_w]
         rfl
        refine pu 6 88 HT_ ?_
        refine one_ (i := 7) (N := none) #[true, true, true, true, true, true, true, true, false] rfl rfl (one_of HT_.out (by kernel_rfl)) (by decide) (fun K hK => ?_)
        have hs94 : w92.cell? ⟨gb135, 0, none⟩ = some (.int .i64 0) := (blk_cell BK135.out 0).trans rfl
        have hfs94 := blk_frozen BK135.out 0
        have hns94_0 := NB134_135.out
        have hns94_2 := NB137_135.out
        have hms94_0 := NB135_134.out
        have hms94_2 := NB135_137.out
        have hs95 : w92.cell? ⟨gb135, 1, none⟩ = some (.slice none 0 0) := (blk_cell BK135.out 1).trans rfl
        have hfs95 := blk_frozen BK135.out 1
        have hns95_0 := NB134_135.out
        have hns95_2 := NB137_135.out
        have hms95_0 := NB135_134.out
        have hms95_2 := NB135_137.out
        refine skip_ (w1 := ?_) (by rfl) rfl ?_ ?_
        rotate_left
        ·go_simp
         rfl
        refine hK.out _ _ ⟨((cell_far (p := ⟨gb135, _, none⟩) NB134_135.out _).trans (((cell_far (p := ⟨gb135, _, none⟩) NB134_135.out _).trans (hHeld.1)))), ((cell_far (p := ⟨gb135, _, none⟩) NB134_135.out _).trans (((cell_far (p := ⟨gb135, _, none⟩) NB134_135.out _).trans (hHeld.2.1)))), ((cell_far (p := ⟨gb135, _, none⟩) NB137_135.out _).trans (((cell_far (p := ⟨gb135, _, none⟩) NB137_135.out _).trans (hHeld.2.2.1)))), ((cell_far (p := ⟨gb135, _, none⟩) NB137_135.out _).trans (((cell_far (p := ⟨gb135, _, none⟩) NB137_135.out _).trans (hHeld.2.2.2))))⟩ (fun hHeld => ?_)
        clear hK K
        refine pu 8 3 HT_ ?_
        refine done_ (done_of HT_.out (by kernel_rfl)) ?_
        try go_wp2
        refine bodyPost_ret (results_ct rfl _ _ gb135 26 #[.int .i64 a0_0, .slice Ao93 t161.length co93] (0, 0) _ rfl (bp BK135.out) Tryd.underlying26 rfl (by kernel_rfl)) rfl ?_
        exact ⟨_, re, by (with_reducible repeat (first | apply Kd.V_alloc | apply Kd.V_drewN | apply Kd.V_drew)); exact Kd.V_mono (Kd.V_far (p := ⟨gb135, 1, none⟩) (Kd.V_far (p := ⟨gb135, 0, none⟩) (Kd.V_mono HO163.out (fun k_ hk => (⟨hk, hk.2.2.2.1⟩ : _ ∧ k_ ≠ gb135))) (fun _ hk => by first | exact hk.2 | (revert hk; simp +contextual; done)) (.int .i64 a0_0)) (fun _ hk => by first | exact hk.2 | (revert hk; simp +contextual; done)) (.slice Ao93 t161.length co93)) (fun _ hk => by first | exact hk.1.1 | (revert hk; simp +contextual; done)), bl HB.out⟩
 rw [if_neg c3] at H
 have c3b0 : (t136 == 0) = false := beq_eq_false_iff_ne.mpr c3
 have c3b1 : (t136 != 0) = true := bne_iff_ne.mpr c3
 simp only [Option.some.injEq, Prod.mk.injEq] at H
 obtain ⟨rfl, rfl, rfl⟩ := H
 go_enter Tryd.func21, Tryd.ntmps21
 go_wp2_with (first | ((with_reducible refine gate_dst (N := 1) rfl ?_); (try (refine gate_guard (by rfl) ?_; dsimp only)); refine bev #[.int .i64 a0_0, .slice A0_1 l0_1.length c0_1] 26 ?_; intro gb134 hg w96 hbox hb; have BK134 := am (hbox); have GW134 := am (szl hg (bl HB.out)); have GE134 := am (szl hg (bl HB.out)); have HB := am (below_step (bl HB.out) hb); clear hb hbox hg) | ((with_reducible refine gate_dst (N := 2) rfl ?_); (try (refine gate_guard (by rfl) ?_; dsimp only)); refine bev #[.int .i64 0, .slice none 0 0] 26 ?_; intro gb135 hg w97 hbox hb; have BK135 := am (hbox); have GW135 := am (szl hg (bl HB.out)); have GE135 := am (szl hg (bl HB.out)); have HB := am (below_step (bl HB.out) hb); have NB134_135 := am (nel hg (bk BK134.out)); have NB135_134 := am (neg_ hg (bk BK134.out)); have BK134 := am (blk_below (bk BK134.out) hb); clear hb hbox hg; have hnb98 := NB134_135.out; have hnc98 := NB135_134.out; obtain ⟨hcz99_0, hcz99_1, hfz99_0, hfz99_1⟩ := bc2 BK134.out) | ((with_reducible refine gate_callee (f := 25) rfl ?_); refine goesL_ (some 10) rfl rfl Tryd.func25 (by kernel_rfl) rfl #[.agg #[.int .i64 a0_0, .slice A0_1 l0_1.length c0_1]] rfl (by (try simp only [List.map_toArray, List.map_cons, List.map_nil]); first | done | rfl | (simp only [List.length_drop, List.length_take]; rfl)) ?_; (with_reducible refine (change_Right.calls k a0_0 _ _ l0_1 t136 _ ?side1 ?side2 ?side3 A2.out).mono ?_); (case side1 => exact ks (Kd.C_below HR0_1.out HB.out)); (case side2 => exact HC0_1.out); (case side3 => exact Tabs.below HT_.out (bl HB.out)); rintro e w100 ⟨rfl, hb⟩; refine ⟨_, rfl, ?_⟩; have BK134 := am (blk_below (bk BK134.out) hb); have BK135 := am (blk_below (bk BK135.out) hb); have HB := am (below_step (bl HB.out) hb); (try clear hb); (try clear hb2); (try clear hk); (try clear hi); obtain ⟨hcz101_0, hcz101_1, hfz101_0, hfz101_1⟩ := bc2 BK135.out))
 refine bodyPost_ret (results_ct rfl _ _ gb135 26 #[.int .i64 0, .slice none 0 0] (0, 0) _ rfl (bp BK135.out) Tryd.underlying26 rfl (by kernel_rfl)) rfl ?_
 exact ⟨_, re, Kd.V_nil _ _ _ _ _, bl HB.out⟩
end Go.Proofs.YtinbpjodheceoaaDoor.Sp
