/- Written by this session's programs (sprint.py, prune.py). -/
import Derived.Test.YtinbpjodheceoaaDoorXaSp0
import Derived.Test.YtinbpjodheceoaaDoorXaSp2
import Derived.Test.YtinbpjodheceoaaDoorXaSp5
import Derived.Test.YtinbpjodheceoaaDoorXaSp8
import Derived.Test.YtinbpjodheceoaaDoorXaSp13
import Derived.Test.YtinbpjodheceoaaDoorXaSp14
namespace Go.Proofs.YtinbpjodheceoaaDoor.Sp
open Go.RowKit Go.Proofs.YtinbpjodheceoaaDoorW.PrintWords Go.Proofs.YtinbpjodheceoaaDoorW.PrintLast Go.Proofs.YtinbpjodheceoaaDoorW.PrintMore
attribute [local go_sem] max2_int min2_int max_two min_two max_three min_three max_four min_four   -- for this text's walks alone
set_option linter.unusedVariables false
set_option linter.unusedSimpArgs false
attribute [local go_sem] own_leq own_gtr own_geq   -- for this text's walks alone
mutual
def blotterlaw03_ChangeOnce.j0 : Nat → Int → Int → Bool → Int → List (S43) → Option (Bool)
  | 0, _, _, _, _, _ => none
  | k + 1, x5, x6, x33, x275000, x275001 => if x33 = true then (none) else (if x5 = 0 then ((change_Normal.f k x275000 x275001).bind fun bt277 => ((change_To.f k x275000 x275001).bind fun bt283 => ((change_Same.f k x275000 x275001 bt277.1 bt277.2.1).bind fun t285 => ((change_Is.f k x275000 x275001).bind fun t286 => (blotterlaw03_ChangeOnce.l0 k x6 bt277.2.2 bt283.1 bt283.2 t285 t286 1 x275000 x275001))))) else (if x275000 = 0 then (some ((x275001.length : Int) == 0)) else (none)))
def blotterlaw03_ChangeOnce.l0 : Nat → Int → Int → Int → Int → Bool → Bool → Int → Int → List (S43) → Option (Bool)
  | 0, _, _, _, _, _, _, _, _, _ => none
  | k + 1, x6, x9, x10, x11, x12, x13, x14, x275000, x275001 => if x14 < (x275001.length : Int) then (if 0 ≤ (wrap64 (x14 - 1)) then (if (wrap64 (x14 - 1)) < (x275001.length : Int) then (if ((rd_T43 x275001 (wrap64 (x14 - 1))).f0) = 3 then (if 0 ≤ x14 then (blotterlaw03_ChangeOnce.j2 k x6 x9 x10 x11 x12 x13 x14 (((rd_T43 x275001 x14).f0) != 1) x275000 x275001) else (none)) else (blotterlaw03_ChangeOnce.j2 k x6 x9 x10 x11 x12 x13 x14 false x275000 x275001)) else (none)) else (none)) else (if x9 = 0 then (if x11 = 0 then (if x12 = true then (if x13 = true then (if x6 = x10 then (if (wrap64 ((x275001.length : Int) - 1)) < 0 then (some true) else (if 0 ≤ (wrap64 ((x275001.length : Int) - 1)) then (if (wrap64 ((x275001.length : Int) - 1)) < (x275001.length : Int) then (if ((rd_T43 x275001 (wrap64 ((x275001.length : Int) - 1))).f0) = 1 then (some (decide ((((rd_T43 x275001 (wrap64 ((x275001.length : Int) - 1))).f3).length : Int) > 0))) else (some true)) else (none)) else (none))) else (none)) else (none)) else (none)) else (none)) else (none))
def blotterlaw03_ChangeOnce.j2 : Nat → Int → Int → Int → Int → Bool → Bool → Int → Bool → Int → List (S43) → Option (Bool)
  | 0, _, _, _, _, _, _, _, _, _, _ => none
  | k + 1, x6, x9, x10, x11, x12, x13, x14, x83, x275000, x275001 => if x83 = true then (none) else (blotterlaw03_ChangeOnce.l0 k x6 x9 x10 x11 x12 x13 (wrap64 (x14 + 1)) x275000 x275001)
end
def blotterlaw03_ChangeOnce.f (k : Nat) (a0_0 : Int) (l0_1 : List (S43)) : Option (Bool) := (blotterlaw03_awake.f k).bind fun t268 => ((change_Normal.f k a0_0 l0_1).bind fun bt269 => ((change_To.f k a0_0 l0_1).bind fun bt275 => (if t268 = true then (blotterlaw03_ChangeOnce.j0 k bt269.2.2 bt275.1 (bt269.2.2 != bt275.2) bt269.1 bt269.2.1) else (blotterlaw03_ChangeOnce.j0 k bt269.2.2 bt275.1 true bt269.1 bt269.2.1))))
theorem blotterlaw03_ChangeOnce.mono_l : ∀ k, (∀ y0 y1 y2 y3 y4, LeO (blotterlaw03_ChangeOnce.j0 k y0 y1 y2 y3 y4) (blotterlaw03_ChangeOnce.j0 (k + 1) y0 y1 y2 y3 y4)) ∧ (∀ y0 y1 y2 y3 y4 y5 y6 y7 y8, LeO (blotterlaw03_ChangeOnce.l0 k y0 y1 y2 y3 y4 y5 y6 y7 y8) (blotterlaw03_ChangeOnce.l0 (k + 1) y0 y1 y2 y3 y4 y5 y6 y7 y8)) ∧ (∀ y0 y1 y2 y3 y4 y5 y6 y7 y8 y9, LeO (blotterlaw03_ChangeOnce.j2 k y0 y1 y2 y3 y4 y5 y6 y7 y8 y9) (blotterlaw03_ChangeOnce.j2 (k + 1) y0 y1 y2 y3 y4 y5 y6 y7 y8 y9))
  | 0 => ⟨fun _ _ _ _ _ r h => by simp [blotterlaw03_ChangeOnce.j0] at h, fun _ _ _ _ _ _ _ _ _ r h => by simp [blotterlaw03_ChangeOnce.l0] at h, fun _ _ _ _ _ _ _ _ _ _ r h => by simp [blotterlaw03_ChangeOnce.j2] at h⟩
  | k + 1 => by
    obtain ⟨ih0, ih1, ih2⟩ := blotterlaw03_ChangeOnce.mono_l k
    refine ⟨?_, ?_, ?_⟩
    · intro y0 y1 y2 y3 y4
      unfold blotterlaw03_ChangeOnce.j0
      repeat' first
      | (with_reducible exact ih0 _ _ _ _ _)
      | (with_reducible exact ih1 _ _ _ _ _ _ _ _ _)
      | (with_reducible exact ih2 _ _ _ _ _ _ _ _ _ _)
      | (with_reducible exact blotterlaw03_awake.mono _)
      | (with_reducible exact change_Is.mono _ _ _)
      | (with_reducible exact change_Normal.mono _ _ _)
      | (with_reducible exact change_Same.mono _ _ _ _ _)
      | (with_reducible exact change_To.mono _ _ _)
      | (with_reducible exact LeO.refl _)
      | (with_reducible exact LeO.none _)
      | (with_reducible refine LeO.ite ?_ ?_)
      | (with_reducible refine LeO.bind ?_ (fun _ => ?_))
      | exact ih0 _ _ _ _ _
      | exact ih1 _ _ _ _ _ _ _ _ _
      | exact ih2 _ _ _ _ _ _ _ _ _ _
      | exact blotterlaw03_awake.mono _
      | exact change_Is.mono _ _ _
      | exact change_Normal.mono _ _ _
      | exact change_Same.mono _ _ _ _ _
      | exact change_To.mono _ _ _
      | exact LeO.none _
      | refine LeO.ite ?_ ?_
      | refine LeO.bind ?_ (fun _ => ?_)
    · intro y0 y1 y2 y3 y4 y5 y6 y7 y8
      unfold blotterlaw03_ChangeOnce.l0
      repeat' first
      | (with_reducible exact ih0 _ _ _ _ _)
      | (with_reducible exact ih1 _ _ _ _ _ _ _ _ _)
      | (with_reducible exact ih2 _ _ _ _ _ _ _ _ _ _)
      | (with_reducible exact blotterlaw03_awake.mono _)
      | (with_reducible exact change_Is.mono _ _ _)
      | (with_reducible exact change_Normal.mono _ _ _)
      | (with_reducible exact change_Same.mono _ _ _ _ _)
      | (with_reducible exact change_To.mono _ _ _)
      | (with_reducible exact LeO.refl _)
      | (with_reducible exact LeO.none _)
      | (with_reducible refine LeO.ite ?_ ?_)
      | (with_reducible refine LeO.bind ?_ (fun _ => ?_))
      | exact ih0 _ _ _ _ _
      | exact ih1 _ _ _ _ _ _ _ _ _
      | exact ih2 _ _ _ _ _ _ _ _ _ _
      | exact blotterlaw03_awake.mono _
      | exact change_Is.mono _ _ _
      | exact change_Normal.mono _ _ _
      | exact change_Same.mono _ _ _ _ _
      | exact change_To.mono _ _ _
      | exact LeO.none _
      | refine LeO.ite ?_ ?_
      | refine LeO.bind ?_ (fun _ => ?_)
    · intro y0 y1 y2 y3 y4 y5 y6 y7 y8 y9
      unfold blotterlaw03_ChangeOnce.j2
      repeat' first
      | (with_reducible exact ih0 _ _ _ _ _)
      | (with_reducible exact ih1 _ _ _ _ _ _ _ _ _)
      | (with_reducible exact ih2 _ _ _ _ _ _ _ _ _ _)
      | (with_reducible exact blotterlaw03_awake.mono _)
      | (with_reducible exact change_Is.mono _ _ _)
      | (with_reducible exact change_Normal.mono _ _ _)
      | (with_reducible exact change_Same.mono _ _ _ _ _)
      | (with_reducible exact change_To.mono _ _ _)
      | (with_reducible exact LeO.refl _)
      | (with_reducible exact LeO.none _)
      | (with_reducible refine LeO.ite ?_ ?_)
      | (with_reducible refine LeO.bind ?_ (fun _ => ?_))
      | exact ih0 _ _ _ _ _
      | exact ih1 _ _ _ _ _ _ _ _ _
      | exact ih2 _ _ _ _ _ _ _ _ _ _
      | exact blotterlaw03_awake.mono _
      | exact change_Is.mono _ _ _
      | exact change_Normal.mono _ _ _
      | exact change_Same.mono _ _ _ _ _
      | exact change_To.mono _ _ _
      | exact LeO.none _
      | refine LeO.ite ?_ ?_
      | refine LeO.bind ?_ (fun _ => ?_)
theorem blotterlaw03_ChangeOnce.mono : ∀ a0 a1 k, LeO (blotterlaw03_ChangeOnce.f k a0 a1) (blotterlaw03_ChangeOnce.f (k + 1) a0 a1) := by
  intro a0 a1 k
  obtain ⟨ih0, ih1, ih2⟩ := blotterlaw03_ChangeOnce.mono_l k
  unfold blotterlaw03_ChangeOnce.f
  repeat' first
      | (with_reducible exact ih0 _ _ _ _ _)
      | (with_reducible exact ih1 _ _ _ _ _ _ _ _ _)
      | (with_reducible exact ih2 _ _ _ _ _ _ _ _ _ _)
      | (with_reducible exact blotterlaw03_awake.mono _)
      | (with_reducible exact change_Is.mono _ _ _)
      | (with_reducible exact change_Normal.mono _ _ _)
      | (with_reducible exact change_Same.mono _ _ _ _ _)
      | (with_reducible exact change_To.mono _ _ _)
      | (with_reducible exact LeO.refl _)
      | (with_reducible exact LeO.none _)
      | (with_reducible refine LeO.ite ?_ ?_)
      | (with_reducible refine LeO.bind ?_ (fun _ => ?_))
      | exact ih0 _ _ _ _ _
      | exact ih1 _ _ _ _ _ _ _ _ _
      | exact ih2 _ _ _ _ _ _ _ _ _ _
      | exact blotterlaw03_awake.mono _
      | exact change_Is.mono _ _ _
      | exact change_Normal.mono _ _ _
      | exact change_Same.mono _ _ _ _ _
      | exact change_To.mono _ _ _
      | exact LeO.none _
      | refine LeO.ite ?_ ?_
      | refine LeO.bind ?_ (fun _ => ?_)
set_option maxHeartbeats 8000000 in
set_option maxRecDepth 100000 in
theorem blotterlaw03_ChangeOnce.calls (k : Nat) (a0_0 : Int) (A0_1 : Option Addr) (c0_1 : Nat) (l0_1 : List (S43)) (r : Bool) (w : World) (hr0_1 : Kd.C k43 w A0_1 l0_1.length l0_1) (hc0_1 : l0_1.length ≤ c0_1) (hT_ : Tabs w) (h : blotterlaw03_ChangeOnce.f k a0_0 l0_1 = some r) :
    Calls Tryd.prog 5 #[.agg #[.int .i64 a0_0, .slice A0_1 l0_1.length c0_1]] w fun e w' => e = .returned (.bool r) ∧ Below w.heap.size w w' := by
  have hu26 := Tryd.underlying26
  have HT_ := Aside0.mk hT_
  clear hT_
  have HR0_1 := Aside0.mk hr0_1
  have HC0_1 := Aside0.mk hc0_1
  clear hr0_1 hc0_1
  have HB := Aside0.mk (Below.refl w.heap.size w)
  have H : ((blotterlaw03_awake.f k).bind fun t268 => ((change_Normal.f k a0_0 l0_1).bind fun bt269 => ((change_To.f k a0_0 l0_1).bind fun bt275 => (if t268 = true then (blotterlaw03_ChangeOnce.j0 k bt269.2.2 bt275.1 (bt269.2.2 != bt275.2) bt269.1 bt269.2.1) else (blotterlaw03_ChangeOnce.j0 k bt269.2.2 bt275.1 true bt269.1 bt269.2.1))))) = some r := h
  clear h
  replace H := Option.bind_eq_some_iff.mp H
  obtain ⟨t268, A20, H⟩ := H
  replace H : ((change_Normal.f k a0_0 l0_1).bind fun bt269 => ((change_To.f k a0_0 l0_1).bind fun bt275 => (if t268 = true then (blotterlaw03_ChangeOnce.j0 k bt269.2.2 bt275.1 (bt269.2.2 != bt275.2) bt269.1 bt269.2.1) else (blotterlaw03_ChangeOnce.j0 k bt269.2.2 bt275.1 true bt269.1 bt269.2.1)))) = some r := H
  have A2 := Aside0.mk A20
  clear A20
  replace H := Option.bind_eq_some_iff.mp H
  obtain ⟨⟨t269, t270, t273⟩, A30, H⟩ := H
  replace H : ((change_To.f k a0_0 l0_1).bind fun bt275 => (if t268 = true then (blotterlaw03_ChangeOnce.j0 k t273 bt275.1 (t273 != bt275.2) t269 t270) else (blotterlaw03_ChangeOnce.j0 k t273 bt275.1 true t269 t270))) = some r := H
  have A3 := Aside0.mk A30
  clear A30
  replace H := Option.bind_eq_some_iff.mp H
  obtain ⟨⟨t275, t276⟩, A40, H⟩ := H
  replace H : (if t268 = true then (blotterlaw03_ChangeOnce.j0 k t273 t275 (t273 != t276) t269 t270) else (blotterlaw03_ChangeOnce.j0 k t273 t275 true t269 t270)) = some r := H
  have A4 := Aside0.mk A40
  clear A40
  have HC5 := Aside0.mk H
  clear H
  go_enter Tryd.func5, Tryd.ntmps5
  go_upto_region 4 with (first | ((with_reducible refine gate_dst (N := 1) rfl ?_); (try (refine gate_guard (by rfl) ?_; dsimp only)); refine box_event ?hg (N := 1) ?hd (cs := #[.int .i64 a0_0, .slice A0_1 l0_1.length c0_1]) (t := 26) ?hr ?_; (case hd => rfl); (case hg => rfl); (case hr => first | (go_simp; done) | (go_simp; rfl)); intro gb267 hg w6 hbox hb; have n0_ := Aside0.mk (below_step (by repeat (first | (with_reducible first | exact HB.out | apply below_alloc | apply pw_below_drewN | apply below_drew1) | exact HB.out)) hb); have n1_ := Aside0.mk (hbox); have n2_ := Aside0.mk ((by rw [hg]; exact (below_size (by repeat (first | (with_reducible first | exact HB.out | apply below_alloc | apply pw_below_drewN | apply below_drew1) | exact HB.out))) : w.heap.size ≤ gb267)); have n3_ := Aside0.mk ((by rw [hg]; exact (below_size (by repeat (first | (with_reducible first | exact HB.out | apply below_alloc | apply pw_below_drewN | apply below_drew1) | exact HB.out))) : w.heap.size ≤ gb267)); clear HB; have HB := n0_; have BK267 := n1_; have GW267 := n2_; have GE267 := n3_; clear n0_ n1_ n2_ n3_; clear hb hbox hg) | ((with_reducible refine gate_callee (f := 20) rfl ?_); refine goesL_ (some 16) rfl rfl Tryd.func20 (by kernel_rfl) rfl #[] rfl (by (try simp only [List.map_toArray, List.map_cons, List.map_nil]); first | done | rfl | (simp only [List.length_drop, List.length_take]; rfl)) ?_; (with_reducible refine (blotterlaw03_awake.calls k  t268 _ ?side1 A2.out).mono ?_); (case side1 => exact Tabs.below HT_.out (by repeat (first | (with_reducible first | exact HB.out | apply below_alloc | apply pw_below_drewN | apply below_drew1 | refine below_set ?_ GE267.out) | exact HB.out))); rintro e w7 ⟨rfl, hb⟩; refine ⟨_, rfl, ?_⟩; have n0_ := Aside0.mk (blk_below (g := gb267) (o := .cells #[.int .i64 a0_0, .slice A0_1 l0_1.length c0_1] 26 (0, 0)) (by (with_reducible repeat (first | refine blk_drewN ?_ _ | refine blk_drew ?_ | refine blk_alloc ?_ _)); exact BK267.out) hb); have n1_ := Aside0.mk (below_step (by repeat (first | (with_reducible first | exact HB.out | apply below_alloc | apply pw_below_drewN | apply below_drew1 | refine below_set ?_ GE267.out) | exact HB.out)) hb); clear BK267; clear HB; have BK267 := n0_; have HB := n1_; clear n0_ n1_; (try clear hb); (try clear hb2); (try clear hk); (try clear hi); have hcz8_0 : w7.cell? ⟨gb267, 0, none⟩ = some (.int .i64 a0_0) := (blk_cell BK267.out 0).trans rfl; have hcz8_1 : w7.cell? ⟨gb267, 1, none⟩ = some (.slice A0_1 l0_1.length c0_1) := (blk_cell BK267.out 1).trans rfl; have hfz8_0 := blk_frozen BK267.out 0; have hfz8_1 := blk_frozen BK267.out 1) | ((with_reducible refine gate_callee (f := 21) rfl ?_); refine goesL_ (some 19) rfl rfl Tryd.func21 (by kernel_rfl) rfl #[.agg #[.int .i64 a0_0, .slice A0_1 l0_1.length c0_1]] rfl (by (try simp only [List.map_toArray, List.map_cons, List.map_nil]); first | done | rfl | (simp only [List.length_drop, List.length_take]; rfl)) ?_; (with_reducible refine (change_Normal.calls k a0_0 _ _ l0_1 t269 t270 t273 _ ?side1 ?side2 ?side3 A3.out).mono ?_); (case side1 => repeat (first | exact (Kd.C_below HR0_1.out HB.out) | (with_reducible refine Kd.C_alloc ?_ _) | (with_reducible refine Kd.C_drewN ?_ _) | (with_reducible refine Kd.C_drew ?_))); (case side2 => exact HC0_1.out); (case side3 => exact Tabs.below HT_.out (by repeat (first | (with_reducible first | exact HB.out | apply below_alloc | apply pw_below_drewN | apply below_drew1 | refine below_set ?_ GE267.out) | exact HB.out))); rintro e w9 ⟨v271, rfl, ho0, hb⟩; refine ⟨_, rfl, ?_⟩; have n0_ := Aside0.mk (Kd.V_lower (Kd.V_mono (ok' := fun k_ => k_ ≠ gb267) ho0 (fun k_ hk_ => (Kd.freshB (g := gb267) (o := .cells #[.int .i64 a0_0, .slice A0_1 l0_1.length c0_1] 26 (0, 0)) (by (with_reducible repeat (first | refine blk_drewN ?_ _ | refine blk_drew ?_ | refine blk_alloc ?_ _)); exact BK267.out) k_ hk_))) (below_size (by repeat (first | (with_reducible first | exact HB.out | apply below_alloc | apply pw_below_drewN | apply below_drew1 | refine below_set ?_ GE267.out) | exact HB.out)))); have n1_ := Aside0.mk (blk_below (g := gb267) (o := .cells #[.int .i64 a0_0, .slice A0_1 l0_1.length c0_1] 26 (0, 0)) (by (with_reducible repeat (first | refine blk_drewN ?_ _ | refine blk_drew ?_ | refine blk_alloc ?_ _)); exact BK267.out) hb); have n2_ := Aside0.mk (below_step (by repeat (first | (with_reducible first | exact HB.out | apply below_alloc | apply pw_below_drewN | apply below_drew1 | refine below_set ?_ GE267.out) | exact HB.out)) hb); clear BK267; clear HB; have HO272 := n0_; have BK267 := n1_; have HB := n2_; clear n0_ n1_ n2_; (try clear hb); (try clear hb2); (try clear hk); (try clear hi); (try clear ho0)) | ((with_reducible refine gate_dst (N := 4) rfl ?_); (try (refine gate_guard (by rfl) ?_; dsimp only)); refine box_event ?hg (N := 4) ?hd (cs := #[.int .i64 0, .slice none 0 0]) (t := 26) ?hr ?_; (case hd => rfl); (case hg => rfl); (case hr => first | (go_simp; done) | (go_simp; rfl)); intro gb274 hg w10 hbox hb; have n0_ := Aside0.mk (Kd.V_below (Kd.V_elderB (by (with_reducible repeat (first | apply Kd.V_alloc | apply Kd.V_drewN | apply Kd.V_drew)); exact HO272.out) gb274 (Nat.le_of_eq hg.symm)) hb); have n1_ := Aside0.mk (blk_below (g := gb267) (o := .cells #[.int .i64 a0_0, .slice A0_1 l0_1.length c0_1] 26 (0, 0)) (by (with_reducible repeat (first | refine blk_drewN ?_ _ | refine blk_drew ?_ | refine blk_alloc ?_ _)); exact BK267.out) hb); have n2_ := Aside0.mk (below_step (by repeat (first | (with_reducible first | exact HB.out | apply below_alloc | apply pw_below_drewN | apply below_drew1 | refine below_set ?_ GE267.out) | exact HB.out)) hb); have n3_ := Aside0.mk (hbox); have n4_ := Aside0.mk ((by rw [hg]; exact (below_size (by repeat (first | (with_reducible first | exact HB.out | apply below_alloc | apply pw_below_drewN | apply below_drew1 | refine below_set ?_ GE267.out) | exact HB.out))) : w.heap.size ≤ gb274)); have n5_ := Aside0.mk ((by rw [hg]; exact (below_size (by repeat (first | (with_reducible first | exact HB.out | apply below_alloc | apply pw_below_drewN | apply below_drew1 | refine below_set ?_ GE267.out) | exact HB.out))) : w.heap.size ≤ gb274)); have n6_ := Aside0.mk ((by rw [hg]; exact Nat.ne_of_lt (blk_lt (g := gb267) (o := .cells #[.int .i64 a0_0, .slice A0_1 l0_1.length c0_1] 26 (0, 0)) (by (with_reducible repeat (first | refine blk_drewN ?_ _ | refine blk_drew ?_ | refine blk_alloc ?_ _)); exact BK267.out)) : gb267 ≠ gb274)); have n7_ := Aside0.mk ((by rw [hg]; exact Nat.ne_of_gt (blk_lt (g := gb267) (o := .cells #[.int .i64 a0_0, .slice A0_1 l0_1.length c0_1] 26 (0, 0)) (by (with_reducible repeat (first | refine blk_drewN ?_ _ | refine blk_drew ?_ | refine blk_alloc ?_ _)); exact BK267.out)) : gb274 ≠ gb267)); clear HO272; clear BK267; clear HB; have HO272 := n0_; have BK267 := n1_; have HB := n2_; have BK274 := n3_; have GW274 := n4_; have GE274 := n5_; have NB267_274 := n6_; have NB274_267 := n7_; clear n0_ n1_ n2_ n3_ n4_ n5_ n6_ n7_; clear hb hbox hg; have hnb11 := NB274_267.out; have hnc11 := NB267_274.out; have hcz12_0 : w10.cell? ⟨gb274, 0, none⟩ = some (.int .i64 0) := (blk_cell BK274.out 0).trans rfl; have hcz12_1 : w10.cell? ⟨gb274, 1, none⟩ = some (.slice none 0 0) := (blk_cell BK274.out 1).trans rfl; have hfz12_0 := blk_frozen BK274.out 0; have hfz12_1 := blk_frozen BK274.out 1; obtain ⟨Ao13, co13, eo13⟩ := Kd.V_slice HO272.out; subst eo13; have hcz14_0 : w10.cell? ⟨gb267, 0, none⟩ = some (.int .i64 a0_0) := (blk_cell BK267.out 0).trans rfl; have hcz14_1 : w10.cell? ⟨gb267, 1, none⟩ = some (.slice A0_1 l0_1.length c0_1) := (blk_cell BK267.out 1).trans rfl; have hfz14_0 := blk_frozen BK267.out 0; have hfz14_1 := blk_frozen BK267.out 1) | ((with_reducible refine gate_callee (f := 16) rfl ?_); refine goesL_ (some 24) rfl rfl Tryd.func16 (by kernel_rfl) rfl #[.agg #[.int .i64 a0_0, .slice A0_1 l0_1.length c0_1]] rfl (by (try simp only [List.map_toArray, List.map_cons, List.map_nil]); first | done | rfl | (simp only [List.length_drop, List.length_take]; rfl)) ?_; (with_reducible refine (change_To.calls k a0_0 _ _ l0_1 t275 t276 _ ?side1 ?side2 ?side3 A4.out).mono ?_); (case side1 => exact Kd.C_below HR0_1.out (by repeat (first | (with_reducible first | exact HB.out | apply below_alloc | apply pw_below_drewN | apply below_drew1 | refine below_set ?_ GE267.out | refine below_set ?_ GE274.out) | exact HB.out))); (case side2 => exact HC0_1.out); (case side3 => exact Tabs.below HT_.out (by repeat (first | (with_reducible first | exact HB.out | apply below_alloc | apply pw_below_drewN | apply below_drew1 | refine below_set ?_ GE267.out | refine below_set ?_ GE274.out) | exact HB.out))); rintro e w15 ⟨rfl, hb⟩; refine ⟨_, rfl, ?_⟩; have n0_ := Aside0.mk (Kd.V_below (by (with_reducible repeat (first | apply Kd.V_alloc | apply Kd.V_drewN | apply Kd.V_drew)); exact (Kd.V_mono (Kd.V_far (p := ⟨gb274, 1, none⟩) (Kd.V_far (p := ⟨gb274, 0, none⟩) (Kd.V_mono HO272.out (fun k_ hk => (⟨hk, hk.2⟩ : _ ∧ k_ ≠ gb274))) (fun _ hk => hk.2) (.int .i64 t269)) (fun _ hk => hk.2) (.slice Ao13 t270.length co13)) (fun _ h_ => h_.1))) hb); have n1_ := Aside0.mk (blk_below (g := gb267) (o := .cells #[.int .i64 a0_0, .slice A0_1 l0_1.length c0_1] 26 (0, 0)) (by (with_reducible repeat (first | refine blk_drewN ?_ _ | refine blk_drew ?_ | refine blk_alloc ?_ _)); refine blk_far ?_ NB267_274.out _; (with_reducible repeat (first | refine blk_drewN ?_ _ | refine blk_drew ?_ | refine blk_alloc ?_ _)); refine blk_far ?_ NB267_274.out _; (with_reducible repeat (first | refine blk_drewN ?_ _ | refine blk_drew ?_ | refine blk_alloc ?_ _)); exact BK267.out) hb); have n2_ := Aside0.mk (blk_below (g := gb274) (o := .cells #[.int .i64 t269, .slice Ao13 t270.length co13] 26 (0, 0)) (by (with_reducible repeat (first | refine blk_drewN ?_ _ | refine blk_drew ?_ | refine blk_alloc ?_ _)); refine blk_put (cs := #[.int .i64 t269, .slice none 0 0]) ?_ 1 _ rfl; (with_reducible repeat (first | refine blk_drewN ?_ _ | refine blk_drew ?_ | refine blk_alloc ?_ _)); refine blk_put (cs := #[.int .i64 0, .slice none 0 0]) ?_ 0 _ rfl; (with_reducible repeat (first | refine blk_drewN ?_ _ | refine blk_drew ?_ | refine blk_alloc ?_ _)); exact BK274.out) hb); have n3_ := Aside0.mk (below_step (by repeat (first | (with_reducible first | exact HB.out | apply below_alloc | apply pw_below_drewN | apply below_drew1 | refine below_set ?_ GE267.out | refine below_set ?_ GE274.out) | exact HB.out)) hb); clear HO272; clear BK267; clear BK274; clear HB; have HO272 := n0_; have BK267 := n1_; have BK274 := n2_; have HB := n3_; clear n0_ n1_ n2_ n3_; (try clear hb); (try clear hb2); (try clear hk); (try clear hi)))
  (try simp only [Act.put, List.setIfInBounds_toArray, List.set_cons_zero, List.set_cons_succ])
  go_cut [33] (fun v33 wc => ∃ (kq : Nat) (x33_4 : Bool), v33 = .bool x33_4 ∧ Aside0 (blotterlaw03_ChangeOnce.j0 kq t273 t275 x33_4 t269 t270 = some r) ∧ Aside0 (kq ≤ k) ∧ Aside0 (Kd.V k43 43 wc w.heap.size (fun k_ => k_ ≠ gb267 ∧ k_ ≠ gb274) (.slice Ao13 t270.length co13) t270) ∧ Aside0 (wc.heap[gb267]? = some (.cells #[.int .i64 a0_0, (.slice A0_1 l0_1.length c0_1)] 26 (0, 0))) ∧ Aside0 (wc.heap[gb274]? = some (.cells #[.int .i64 t269, (.slice Ao13 t270.length co13)] 26 (0, 0))) ∧ Aside0 (Below w.heap.size w wc))
  case first =>
    have H := HC5.out
    clear HC5
    by_cases c16 : t268 = true
    · subst c16
      have H1 : (blotterlaw03_ChangeOnce.j0 k t273 t275 (t273 != t276) t269 t270) = some r := by rw [if_pos rfl] at H; exact H
      clear H
      have H := H1
      clear H1
      have H' := Aside0.mk H
      clear H
      go_wp2
      go_meet
      case rel => exact ⟨_, ((t273 != t276)), (by first | rfl | (simp; done) | (simp [*]; done)), H', ⟨by first | omega | exact Nat.le_refl _⟩, ⟨by (with_reducible repeat (first | apply Kd.V_alloc | apply Kd.V_drewN | apply Kd.V_drew)); exact HO272.out⟩, ⟨by (with_reducible repeat (first | refine blk_drewN ?_ _ | refine blk_drew ?_ | refine blk_alloc ?_ _)); exact BK267.out⟩, ⟨by (with_reducible repeat (first | refine blk_drewN ?_ _ | refine blk_drew ?_ | refine blk_alloc ?_ _)); exact BK274.out⟩, ⟨by repeat (first | (with_reducible first | exact HB.out | apply below_alloc | apply pw_below_drewN | apply below_drew1 | refine below_set ?_ GE267.out | refine below_set ?_ GE274.out) | exact HB.out)⟩⟩
    · replace c16 := Bool.eq_false_iff.mpr c16
      subst c16
      have H1 : (blotterlaw03_ChangeOnce.j0 k t273 t275 true t269 t270) = some r := by rw [if_neg (show ¬ (false = true) by decide)] at H; exact H
      clear H
      have H := H1
      clear H1
      have H' := Aside0.mk H
      clear H
      go_wp2
      go_meet
      case rel => exact ⟨_, (true), (by first | rfl | (simp; done) | (simp [*]; done)), H', ⟨by first | omega | exact Nat.le_refl _⟩, ⟨by (with_reducible repeat (first | apply Kd.V_alloc | apply Kd.V_drewN | apply Kd.V_drew)); exact HO272.out⟩, ⟨by (with_reducible repeat (first | refine blk_drewN ?_ _ | refine blk_drew ?_ | refine blk_alloc ?_ _)); exact BK267.out⟩, ⟨by (with_reducible repeat (first | refine blk_drewN ?_ _ | refine blk_drew ?_ | refine blk_alloc ?_ _)); exact BK274.out⟩, ⟨by repeat (first | (with_reducible first | exact HB.out | apply below_alloc | apply pw_below_drewN | apply below_drew1 | refine below_set ?_ GE267.out | refine below_set ?_ GE274.out) | exact HB.out)⟩⟩
  case rest =>
    clear HC5
    try clear c1
    try clear c2
    try clear p2
    try clear c5
    try clear c11
    try clear c16
    try clear hcz12_0
    try clear hcz12_1
    try clear hcz14_0
    try clear hcz14_1
    try clear hcz8_0
    try clear hcz8_1
    try clear hfz12_0
    try clear hfz12_1
    try clear hfz14_0
    try clear hfz14_1
    try clear hfz8_0
    try clear hfz8_1
    obtain ⟨kq, x33_4, rfl, HA, HJ4, HO_275001, BK267, BK274, HB⟩ := hcut
    cases kq with
    | zero => exact absurd HA.out (by simp [blotterlaw03_ChangeOnce.j0])
    | succ kj4 =>
      have H := HA.out
      clear HA
      simp only [blotterlaw03_ChangeOnce.j0] at H
      by_cases c17 : x33_4 = true
      · subst c17
        have H1 : (none) = some r := by rw [if_pos rfl] at H; exact H
        clear H
        have H := H1
        clear H1
        exact absurd H (by simp)
      · replace c17 := Bool.eq_false_iff.mpr c17
        subst c17
        have H1 : (if t273 = 0 then ((change_Normal.f kj4 t269 t270).bind fun bt277 => ((change_To.f kj4 t269 t270).bind fun bt283 => ((change_Same.f kj4 t269 t270 bt277.1 bt277.2.1).bind fun t285 => ((change_Is.f kj4 t269 t270).bind fun t286 => (blotterlaw03_ChangeOnce.l0 kj4 t275 bt277.2.2 bt283.1 bt283.2 t285 t286 1 t269 t270))))) else (if t269 = 0 then (some ((t270.length : Int) == 0)) else (none))) = some r := by rw [if_neg (show ¬ (false = true) by decide)] at H; exact H
        clear H
        have H := H1
        clear H1
        by_cases c18 : t273 = 0
        · rw [if_pos c18] at H
          have c18b0 : (t273 == 0) = true := beq_iff_eq.mpr c18
          have c18b1 : (t273 != 0) = false := bne_eq_false_iff_eq.mpr c18
          clear c18
          replace H := Option.bind_eq_some_iff.mp H
          obtain ⟨⟨t277, t278, t281⟩, A190, H⟩ := H
          replace H : ((change_To.f kj4 t269 t270).bind fun bt283 => ((change_Same.f kj4 t269 t270 t277 t278).bind fun t285 => ((change_Is.f kj4 t269 t270).bind fun t286 => (blotterlaw03_ChangeOnce.l0 kj4 t275 t281 bt283.1 bt283.2 t285 t286 1 t269 t270)))) = some r := H
          have A19 := Aside0.mk A190
          clear A190
          replace H := Option.bind_eq_some_iff.mp H
          obtain ⟨⟨t283, t284⟩, A200, H⟩ := H
          replace H : ((change_Same.f kj4 t269 t270 t277 t278).bind fun t285 => ((change_Is.f kj4 t269 t270).bind fun t286 => (blotterlaw03_ChangeOnce.l0 kj4 t275 t281 t283 t284 t285 t286 1 t269 t270))) = some r := H
          have A20 := Aside0.mk A200
          clear A200
          replace H := Option.bind_eq_some_iff.mp H
          obtain ⟨t285, A210, H⟩ := H
          replace H : ((change_Is.f kj4 t269 t270).bind fun t286 => (blotterlaw03_ChangeOnce.l0 kj4 t275 t281 t283 t284 t285 t286 1 t269 t270)) = some r := H
          have A21 := Aside0.mk A210
          clear A210
          replace H := Option.bind_eq_some_iff.mp H
          obtain ⟨t286, A220, H⟩ := H
          replace H : (blotterlaw03_ChangeOnce.l0 kj4 t275 t281 t283 t284 t285 t286 1 t269 t270) = some r := H
          have A22 := Aside0.mk A220
          clear A220
          have H' := Aside0.mk H
          clear H
          have hnb23 := NB274_267.out
          have hnc23 := NB267_274.out
          have hcz24_0 : wc.cell? ⟨gb274, 0, none⟩ = some (.int .i64 t269) := (blk_cell BK274.out 0).trans rfl
          have hcz24_1 : wc.cell? ⟨gb274, 1, none⟩ = some (.slice Ao13 t270.length co13) := (blk_cell BK274.out 1).trans rfl
          have hfz24_0 := blk_frozen BK274.out 0
          have hfz24_1 := blk_frozen BK274.out 1
          go_wp2_with (first | ((with_reducible refine gate_callee (f := 21) rfl ?_); refine goesL_ (some 47) rfl rfl Tryd.func21 (by kernel_rfl) rfl #[.agg #[.int .i64 t269, .slice Ao13 t270.length co13]] rfl (by (try simp only [List.map_toArray, List.map_cons, List.map_nil]); first | done | rfl | (simp only [List.length_drop, List.length_take]; rfl)) ?_; (with_reducible refine (change_Normal.calls kj4 t269 _ _ t270 t277 t278 t281 _ ?side1 ?side2 ?side3 A19.out).mono ?_); (case side1 => repeat (first | exact (Kd.V_reads' HO_275001.out).2.2 | (with_reducible refine Kd.C_alloc ?_ _) | (with_reducible refine Kd.C_drewN ?_ _) | (with_reducible refine Kd.C_drew ?_))); (case side2 => exact (Kd.V_reads' HO_275001.out).2.1); (case side3 => exact Tabs.below HT_.out (by repeat (first | (with_reducible first | exact HB.out | apply below_alloc | apply pw_below_drewN | apply below_drew1 | refine below_set ?_ GE267.out | refine below_set ?_ GE274.out) | exact HB.out))); rintro e w25 ⟨v279, rfl, ho0, hb⟩; refine ⟨_, rfl, ?_⟩; have n0_ := Aside0.mk (Kd.V_below (by (with_reducible repeat (first | apply Kd.V_alloc | apply Kd.V_drewN | apply Kd.V_drew)); exact HO_275001.out) hb); have n1_ := Aside0.mk (Kd.V_lower (Kd.V_mono (ok' := fun k_ => k_ ≠ gb267 ∧ k_ ≠ gb274) ho0 (fun k_ hk_ => ⟨(Kd.freshB (g := gb267) (o := .cells #[.int .i64 a0_0, .slice A0_1 l0_1.length c0_1] 26 (0, 0)) (by (with_reducible repeat (first | refine blk_drewN ?_ _ | refine blk_drew ?_ | refine blk_alloc ?_ _)); exact BK267.out) k_ hk_), (Kd.freshB (g := gb274) (o := .cells #[.int .i64 t269, .slice Ao13 t270.length co13] 26 (0, 0)) (by (with_reducible repeat (first | refine blk_drewN ?_ _ | refine blk_drew ?_ | refine blk_alloc ?_ _)); exact BK274.out) k_ hk_)⟩)) (below_size (by repeat (first | (with_reducible first | exact HB.out | apply below_alloc | apply pw_below_drewN | apply below_drew1 | refine below_set ?_ GE267.out | refine below_set ?_ GE274.out) | exact HB.out)))); have n2_ := Aside0.mk (blk_below (g := gb267) (o := .cells #[.int .i64 a0_0, .slice A0_1 l0_1.length c0_1] 26 (0, 0)) (by (with_reducible repeat (first | refine blk_drewN ?_ _ | refine blk_drew ?_ | refine blk_alloc ?_ _)); exact BK267.out) hb); have n3_ := Aside0.mk (blk_below (g := gb274) (o := .cells #[.int .i64 t269, .slice Ao13 t270.length co13] 26 (0, 0)) (by (with_reducible repeat (first | refine blk_drewN ?_ _ | refine blk_drew ?_ | refine blk_alloc ?_ _)); exact BK274.out) hb); have n4_ := Aside0.mk (below_step (by repeat (first | (with_reducible first | exact HB.out | apply below_alloc | apply pw_below_drewN | apply below_drew1 | refine below_set ?_ GE267.out | refine below_set ?_ GE274.out) | exact HB.out)) hb); clear HO_275001; clear BK267; clear BK274; clear HB; have HO_275001 := n0_; have HO280 := n1_; have BK267 := n2_; have BK274 := n3_; have HB := n4_; clear n0_ n1_ n2_ n3_ n4_; (try clear hb); (try clear hb2); (try clear hk); (try clear hi); (try clear ho0)) | ((with_reducible refine gate_dst (N := 8) rfl ?_); (try (refine gate_guard (by rfl) ?_; dsimp only)); refine box_event ?hg (N := 8) ?hd (cs := #[.int .i64 0, .slice none 0 0]) (t := 26) ?hr ?_; (case hd => rfl); (case hg => rfl); (case hr => first | (go_simp; done) | (go_simp; rfl)); intro gb282 hg w26 hbox hb; have n0_ := Aside0.mk (Kd.V_below (Kd.V_elderB (by (with_reducible repeat (first | apply Kd.V_alloc | apply Kd.V_drewN | apply Kd.V_drew)); exact HO_275001.out) gb282 (Nat.le_of_eq hg.symm)) hb); have n1_ := Aside0.mk (Kd.V_below (Kd.V_elderB (by (with_reducible repeat (first | apply Kd.V_alloc | apply Kd.V_drewN | apply Kd.V_drew)); exact HO280.out) gb282 (Nat.le_of_eq hg.symm)) hb); have n2_ := Aside0.mk (blk_below (g := gb267) (o := .cells #[.int .i64 a0_0, .slice A0_1 l0_1.length c0_1] 26 (0, 0)) (by (with_reducible repeat (first | refine blk_drewN ?_ _ | refine blk_drew ?_ | refine blk_alloc ?_ _)); exact BK267.out) hb); have n3_ := Aside0.mk (blk_below (g := gb274) (o := .cells #[.int .i64 t269, .slice Ao13 t270.length co13] 26 (0, 0)) (by (with_reducible repeat (first | refine blk_drewN ?_ _ | refine blk_drew ?_ | refine blk_alloc ?_ _)); exact BK274.out) hb); have n4_ := Aside0.mk (below_step (by repeat (first | (with_reducible first | exact HB.out | apply below_alloc | apply pw_below_drewN | apply below_drew1 | refine below_set ?_ GE267.out | refine below_set ?_ GE274.out) | exact HB.out)) hb); have n5_ := Aside0.mk (hbox); have n6_ := Aside0.mk ((by rw [hg]; exact (below_size (by repeat (first | (with_reducible first | exact HB.out | apply below_alloc | apply pw_below_drewN | apply below_drew1 | refine below_set ?_ GE267.out | refine below_set ?_ GE274.out) | exact HB.out))) : w.heap.size ≤ gb282)); have n7_ := Aside0.mk ((by rw [hg]; exact (below_size (by repeat (first | (with_reducible first | exact HB.out | apply below_alloc | apply pw_below_drewN | apply below_drew1 | refine below_set ?_ GE267.out | refine below_set ?_ GE274.out) | exact HB.out))) : w.heap.size ≤ gb282)); have n8_ := Aside0.mk ((by rw [hg]; exact Nat.ne_of_lt (blk_lt (g := gb267) (o := .cells #[.int .i64 a0_0, .slice A0_1 l0_1.length c0_1] 26 (0, 0)) (by (with_reducible repeat (first | refine blk_drewN ?_ _ | refine blk_drew ?_ | refine blk_alloc ?_ _)); exact BK267.out)) : gb267 ≠ gb282)); have n9_ := Aside0.mk ((by rw [hg]; exact Nat.ne_of_gt (blk_lt (g := gb267) (o := .cells #[.int .i64 a0_0, .slice A0_1 l0_1.length c0_1] 26 (0, 0)) (by (with_reducible repeat (first | refine blk_drewN ?_ _ | refine blk_drew ?_ | refine blk_alloc ?_ _)); exact BK267.out)) : gb282 ≠ gb267)); have n10_ := Aside0.mk ((by rw [hg]; exact Nat.ne_of_lt (blk_lt (g := gb274) (o := .cells #[.int .i64 t269, .slice Ao13 t270.length co13] 26 (0, 0)) (by (with_reducible repeat (first | refine blk_drewN ?_ _ | refine blk_drew ?_ | refine blk_alloc ?_ _)); exact BK274.out)) : gb274 ≠ gb282)); have n11_ := Aside0.mk ((by rw [hg]; exact Nat.ne_of_gt (blk_lt (g := gb274) (o := .cells #[.int .i64 t269, .slice Ao13 t270.length co13] 26 (0, 0)) (by (with_reducible repeat (first | refine blk_drewN ?_ _ | refine blk_drew ?_ | refine blk_alloc ?_ _)); exact BK274.out)) : gb282 ≠ gb274)); clear HO_275001; clear HO280; clear BK267; clear BK274; clear HB; have HO_275001 := n0_; have HO280 := n1_; have BK267 := n2_; have BK274 := n3_; have HB := n4_; have BK282 := n5_; have GW282 := n6_; have GE282 := n7_; have NB267_282 := n8_; have NB282_267 := n9_; have NB274_282 := n10_; have NB282_274 := n11_; clear n0_ n1_ n2_ n3_ n4_ n5_ n6_ n7_ n8_ n9_ n10_ n11_; clear hb hbox hg; have hnb27 := NB282_267.out; have hnc27 := NB267_282.out; have hnb28 := NB282_274.out; have hnc28 := NB274_282.out; have hcz29_0 : w26.cell? ⟨gb282, 0, none⟩ = some (.int .i64 0) := (blk_cell BK282.out 0).trans rfl; have hcz29_1 : w26.cell? ⟨gb282, 1, none⟩ = some (.slice none 0 0) := (blk_cell BK282.out 1).trans rfl; have hfz29_0 := blk_frozen BK282.out 0; have hfz29_1 := blk_frozen BK282.out 1; obtain ⟨Ao30, co30, eo30⟩ := Kd.V_slice HO280.out; subst eo30; have hcz31_0 : w26.cell? ⟨gb274, 0, none⟩ = some (.int .i64 t269) := (blk_cell BK274.out 0).trans rfl; have hcz31_1 : w26.cell? ⟨gb274, 1, none⟩ = some (.slice Ao13 t270.length co13) := (blk_cell BK274.out 1).trans rfl; have hfz31_0 := blk_frozen BK274.out 0; have hfz31_1 := blk_frozen BK274.out 1) | ((with_reducible refine gate_callee (f := 16) rfl ?_); refine goesL_ (some 52) rfl rfl Tryd.func16 (by kernel_rfl) rfl #[.agg #[.int .i64 t269, .slice Ao13 t270.length co13]] rfl (by (try simp only [List.map_toArray, List.map_cons, List.map_nil]); first | done | rfl | (simp only [List.length_drop, List.length_take]; rfl)) ?_; (with_reducible refine (change_To.calls kj4 t269 _ _ t270 t283 t284 _ ?side1 ?side2 ?side3 A20.out).mono ?_); (case side1 => refine (Kd.V_reads' (e := 43) (base := w.heap.size) (ok := fun k_ => ((k_ ≠ gb267 ∧ k_ ≠ gb274) ∧ k_ ≠ gb282)) (n := t270.length) (c := co13) ?_).2.2; exact (by (with_reducible repeat (first | apply Kd.V_alloc | apply Kd.V_drewN | apply Kd.V_drew)); exact (Kd.V_mono (Kd.V_far (p := ⟨gb282, 1, none⟩) (Kd.V_far (p := ⟨gb282, 0, none⟩) (Kd.V_mono HO_275001.out (fun k_ hk => (⟨hk, hk.2⟩ : _ ∧ k_ ≠ gb282))) (fun _ hk => hk.2) (.int .i64 t277)) (fun _ hk => hk.2) (.slice Ao30 t278.length co30)) (fun _ h_ => h_.1)))); (case side2 => exact (Kd.V_reads' HO_275001.out).2.1); (case side3 => exact Tabs.below HT_.out (by repeat (first | (with_reducible first | exact HB.out | apply below_alloc | apply pw_below_drewN | apply below_drew1 | refine below_set ?_ GE267.out | refine below_set ?_ GE274.out | refine below_set ?_ GE282.out) | exact HB.out))); rintro e w32 ⟨rfl, hb⟩; refine ⟨_, rfl, ?_⟩; have n0_ := Aside0.mk (Kd.V_below (by (with_reducible repeat (first | apply Kd.V_alloc | apply Kd.V_drewN | apply Kd.V_drew)); exact (Kd.V_mono (Kd.V_far (p := ⟨gb282, 1, none⟩) (Kd.V_far (p := ⟨gb282, 0, none⟩) (Kd.V_mono HO_275001.out (fun k_ hk => (⟨hk, hk.2⟩ : _ ∧ k_ ≠ gb282))) (fun _ hk => hk.2) (.int .i64 t277)) (fun _ hk => hk.2) (.slice Ao30 t278.length co30)) (fun _ h_ => h_.1))) hb); have n1_ := Aside0.mk (Kd.V_below (by (with_reducible repeat (first | apply Kd.V_alloc | apply Kd.V_drewN | apply Kd.V_drew)); exact (Kd.V_mono (Kd.V_far (p := ⟨gb282, 1, none⟩) (Kd.V_far (p := ⟨gb282, 0, none⟩) (Kd.V_mono HO280.out (fun k_ hk => (⟨hk, hk.2⟩ : _ ∧ k_ ≠ gb282))) (fun _ hk => hk.2) (.int .i64 t277)) (fun _ hk => hk.2) (.slice Ao30 t278.length co30)) (fun _ h_ => h_.1))) hb); have n2_ := Aside0.mk (blk_below (g := gb267) (o := .cells #[.int .i64 a0_0, .slice A0_1 l0_1.length c0_1] 26 (0, 0)) (by (with_reducible repeat (first | refine blk_drewN ?_ _ | refine blk_drew ?_ | refine blk_alloc ?_ _)); refine blk_far ?_ NB267_282.out _; (with_reducible repeat (first | refine blk_drewN ?_ _ | refine blk_drew ?_ | refine blk_alloc ?_ _)); refine blk_far ?_ NB267_282.out _; (with_reducible repeat (first | refine blk_drewN ?_ _ | refine blk_drew ?_ | refine blk_alloc ?_ _)); exact BK267.out) hb); have n3_ := Aside0.mk (blk_below (g := gb274) (o := .cells #[.int .i64 t269, .slice Ao13 t270.length co13] 26 (0, 0)) (by (with_reducible repeat (first | refine blk_drewN ?_ _ | refine blk_drew ?_ | refine blk_alloc ?_ _)); refine blk_far ?_ NB274_282.out _; (with_reducible repeat (first | refine blk_drewN ?_ _ | refine blk_drew ?_ | refine blk_alloc ?_ _)); refine blk_far ?_ NB274_282.out _; (with_reducible repeat (first | refine blk_drewN ?_ _ | refine blk_drew ?_ | refine blk_alloc ?_ _)); exact BK274.out) hb); have n4_ := Aside0.mk (blk_below (g := gb282) (o := .cells #[.int .i64 t277, .slice Ao30 t278.length co30] 26 (0, 0)) (by (with_reducible repeat (first | refine blk_drewN ?_ _ | refine blk_drew ?_ | refine blk_alloc ?_ _)); refine blk_put (cs := #[.int .i64 t277, .slice none 0 0]) ?_ 1 _ rfl; (with_reducible repeat (first | refine blk_drewN ?_ _ | refine blk_drew ?_ | refine blk_alloc ?_ _)); refine blk_put (cs := #[.int .i64 0, .slice none 0 0]) ?_ 0 _ rfl; (with_reducible repeat (first | refine blk_drewN ?_ _ | refine blk_drew ?_ | refine blk_alloc ?_ _)); exact BK282.out) hb); have n5_ := Aside0.mk (below_step (by repeat (first | (with_reducible first | exact HB.out | apply below_alloc | apply pw_below_drewN | apply below_drew1 | refine below_set ?_ GE267.out | refine below_set ?_ GE274.out | refine below_set ?_ GE282.out) | exact HB.out)) hb); clear HO_275001; clear HO280; clear BK267; clear BK274; clear BK282; clear HB; have HO_275001 := n0_; have HO280 := n1_; have BK267 := n2_; have BK274 := n3_; have BK282 := n4_; have HB := n5_; clear n0_ n1_ n2_ n3_ n4_ n5_; (try clear hb); (try clear hb2); (try clear hk); (try clear hi); have hcz33_0 : w32.cell? ⟨gb274, 0, none⟩ = some (.int .i64 t269) := (blk_cell BK274.out 0).trans rfl; have hcz33_1 : w32.cell? ⟨gb274, 1, none⟩ = some (.slice Ao13 t270.length co13) := (blk_cell BK274.out 1).trans rfl; have hfz33_0 := blk_frozen BK274.out 0; have hfz33_1 := blk_frozen BK274.out 1; have hcz34_0 : w32.cell? ⟨gb282, 0, none⟩ = some (.int .i64 t277) := (blk_cell BK282.out 0).trans rfl; have hcz34_1 : w32.cell? ⟨gb282, 1, none⟩ = some (.slice Ao30 t278.length co30) := (blk_cell BK282.out 1).trans rfl; have hfz34_0 := blk_frozen BK282.out 0; have hfz34_1 := blk_frozen BK282.out 1) | ((with_reducible refine gate_callee (f := 22) rfl ?_); refine goesL_ (some 57) rfl rfl Tryd.func22 (by kernel_rfl) rfl #[.agg #[.int .i64 t269, .slice Ao13 t270.length co13], .agg #[.int .i64 t277, .slice Ao30 t278.length co30]] rfl (by (try simp only [List.map_toArray, List.map_cons, List.map_nil]); first | done | rfl | (simp only [List.length_drop, List.length_take]; rfl)) ?_; (with_reducible refine (change_Same.calls kj4 t269 _ _ t270 t277 _ _ t278 t285 _ ?side1 ?side2 ?side3 ?side4 A21.out).mono ?_); (case side1 => repeat (first | exact (Kd.V_reads' HO_275001.out).2.2 | (with_reducible refine Kd.C_alloc ?_ _) | (with_reducible refine Kd.C_drewN ?_ _) | (with_reducible refine Kd.C_drew ?_))); (case side2 => exact (Kd.V_reads' HO_275001.out).2.1); (case side3 => repeat (first | exact (Kd.V_reads' HO280.out).2.2 | (with_reducible refine Kd.C_alloc ?_ _) | (with_reducible refine Kd.C_drewN ?_ _) | (with_reducible refine Kd.C_drew ?_))); (case side4 => exact (Kd.V_reads' HO280.out).2.1); rintro e w35 ⟨rfl, hb⟩; refine ⟨_, rfl, ?_⟩; have n0_ := Aside0.mk (Kd.V_below (by (with_reducible repeat (first | apply Kd.V_alloc | apply Kd.V_drewN | apply Kd.V_drew)); exact HO_275001.out) hb); have n1_ := Aside0.mk (Kd.V_below (by (with_reducible repeat (first | apply Kd.V_alloc | apply Kd.V_drewN | apply Kd.V_drew)); exact HO280.out) hb); have n2_ := Aside0.mk (blk_below (g := gb267) (o := .cells #[.int .i64 a0_0, .slice A0_1 l0_1.length c0_1] 26 (0, 0)) (by (with_reducible repeat (first | refine blk_drewN ?_ _ | refine blk_drew ?_ | refine blk_alloc ?_ _)); exact BK267.out) hb); have n3_ := Aside0.mk (blk_below (g := gb274) (o := .cells #[.int .i64 t269, .slice Ao13 t270.length co13] 26 (0, 0)) (by (with_reducible repeat (first | refine blk_drewN ?_ _ | refine blk_drew ?_ | refine blk_alloc ?_ _)); exact BK274.out) hb); have n4_ := Aside0.mk (blk_below (g := gb282) (o := .cells #[.int .i64 t277, .slice Ao30 t278.length co30] 26 (0, 0)) (by (with_reducible repeat (first | refine blk_drewN ?_ _ | refine blk_drew ?_ | refine blk_alloc ?_ _)); exact BK282.out) hb); have n5_ := Aside0.mk (below_step (by repeat (first | (with_reducible first | exact HB.out | apply below_alloc | apply pw_below_drewN | apply below_drew1 | refine below_set ?_ GE267.out | refine below_set ?_ GE274.out | refine below_set ?_ GE282.out) | exact HB.out)) hb); clear HO_275001; clear HO280; clear BK267; clear BK274; clear BK282; clear HB; have HO_275001 := n0_; have HO280 := n1_; have BK267 := n2_; have BK274 := n3_; have BK282 := n4_; have HB := n5_; clear n0_ n1_ n2_ n3_ n4_ n5_; (try clear hb); (try clear hb2); (try clear hk); (try clear hi); have hcz36_0 : w35.cell? ⟨gb274, 0, none⟩ = some (.int .i64 t269) := (blk_cell BK274.out 0).trans rfl; have hcz36_1 : w35.cell? ⟨gb274, 1, none⟩ = some (.slice Ao13 t270.length co13) := (blk_cell BK274.out 1).trans rfl; have hfz36_0 := blk_frozen BK274.out 0; have hfz36_1 := blk_frozen BK274.out 1) | ((with_reducible refine gate_callee (f := 23) rfl ?_); refine goesL_ (some 59) rfl rfl Tryd.func23 (by kernel_rfl) rfl #[.agg #[.int .i64 t269, .slice Ao13 t270.length co13]] rfl (by (try simp only [List.map_toArray, List.map_cons, List.map_nil]); first | done | rfl | (simp only [List.length_drop, List.length_take]; rfl)) ?_; (with_reducible refine (change_Is.calls kj4 t269 _ _ t270 t286 _ ?side1 ?side2 ?side3 A22.out).mono ?_); (case side1 => repeat (first | exact (Kd.V_reads' HO_275001.out).2.2 | (with_reducible refine Kd.C_alloc ?_ _) | (with_reducible refine Kd.C_drewN ?_ _) | (with_reducible refine Kd.C_drew ?_))); (case side2 => exact (Kd.V_reads' HO_275001.out).2.1); (case side3 => exact Tabs.below HT_.out (by repeat (first | (with_reducible first | exact HB.out | apply below_alloc | apply pw_below_drewN | apply below_drew1 | refine below_set ?_ GE267.out | refine below_set ?_ GE274.out | refine below_set ?_ GE282.out) | exact HB.out))); rintro e w37 ⟨rfl, hb⟩; refine ⟨_, rfl, ?_⟩; have n0_ := Aside0.mk (Kd.V_below (by (with_reducible repeat (first | apply Kd.V_alloc | apply Kd.V_drewN | apply Kd.V_drew)); exact HO_275001.out) hb); have n1_ := Aside0.mk (Kd.V_below (by (with_reducible repeat (first | apply Kd.V_alloc | apply Kd.V_drewN | apply Kd.V_drew)); exact HO280.out) hb); have n2_ := Aside0.mk (blk_below (g := gb267) (o := .cells #[.int .i64 a0_0, .slice A0_1 l0_1.length c0_1] 26 (0, 0)) (by (with_reducible repeat (first | refine blk_drewN ?_ _ | refine blk_drew ?_ | refine blk_alloc ?_ _)); exact BK267.out) hb); have n3_ := Aside0.mk (blk_below (g := gb274) (o := .cells #[.int .i64 t269, .slice Ao13 t270.length co13] 26 (0, 0)) (by (with_reducible repeat (first | refine blk_drewN ?_ _ | refine blk_drew ?_ | refine blk_alloc ?_ _)); exact BK274.out) hb); have n4_ := Aside0.mk (blk_below (g := gb282) (o := .cells #[.int .i64 t277, .slice Ao30 t278.length co30] 26 (0, 0)) (by (with_reducible repeat (first | refine blk_drewN ?_ _ | refine blk_drew ?_ | refine blk_alloc ?_ _)); exact BK282.out) hb); have n5_ := Aside0.mk (below_step (by repeat (first | (with_reducible first | exact HB.out | apply below_alloc | apply pw_below_drewN | apply below_drew1 | refine below_set ?_ GE267.out | refine below_set ?_ GE274.out | refine below_set ?_ GE282.out) | exact HB.out)) hb); clear HO_275001; clear HO280; clear BK267; clear BK274; clear BK282; clear HB; have HO_275001 := n0_; have HO280 := n1_; have BK267 := n2_; have BK274 := n3_; have BK282 := n4_; have HB := n5_; clear n0_ n1_ n2_ n3_ n4_ n5_; (try clear hb); (try clear hb2); (try clear hk); (try clear hi)))
          go_loopg [14] kj4 (fun kq v14 w' => ∃ (x14_2 : Int), v14 = .int .i64 x14_2 ∧ Aside0 (blotterlaw03_ChangeOnce.l0 kq t275 t281 t283 t284 t285 t286 x14_2 t269 t270 = some r) ∧ Aside0 (kq ≤ kj4) ∧ Aside0 (Kd.V k43 43 w' w.heap.size (fun k_ => k_ ≠ gb267 ∧ k_ ≠ gb274 ∧ k_ ≠ gb282) (.slice Ao13 t270.length co13) t270) ∧ Aside0 (Kd.V k43 43 w' w.heap.size (fun k_ => k_ ≠ gb267 ∧ k_ ≠ gb274 ∧ k_ ≠ gb282) (.slice Ao30 t278.length co30) t278) ∧ Aside0 (w'.heap[gb267]? = some (.cells #[.int .i64 a0_0, (.slice A0_1 l0_1.length c0_1)] 26 (0, 0))) ∧ Aside0 (w'.heap[gb274]? = some (.cells #[.int .i64 t269, (.slice Ao13 t270.length co13)] 26 (0, 0))) ∧ Aside0 (w'.heap[gb282]? = some (.cells #[.int .i64 t277, (.slice Ao30 t278.length co30)] 26 (0, 0))) ∧ Aside0 (Below w.heap.size w w'))
          case atStart => exact ⟨(1), (by first | rfl | (simp; done) | (simp [*]; done)), H', ⟨Nat.le_refl _⟩, ⟨by (with_reducible repeat (first | apply Kd.V_alloc | apply Kd.V_drewN | apply Kd.V_drew)); exact Kd.V_mono HO_275001.out (fun _ hk => ⟨hk.1.1, ⟨hk.1.2, hk.2⟩⟩)⟩, ⟨by (with_reducible repeat (first | apply Kd.V_alloc | apply Kd.V_drewN | apply Kd.V_drew)); exact Kd.V_mono HO280.out (fun _ hk => ⟨hk.1.1, ⟨hk.1.2, hk.2⟩⟩)⟩, ⟨by (with_reducible repeat (first | refine blk_drewN ?_ _ | refine blk_drew ?_ | refine blk_alloc ?_ _)); exact BK267.out⟩, ⟨by (with_reducible repeat (first | refine blk_drewN ?_ _ | refine blk_drew ?_ | refine blk_alloc ?_ _)); exact BK274.out⟩, ⟨by (with_reducible repeat (first | refine blk_drewN ?_ _ | refine blk_drew ?_ | refine blk_alloc ?_ _)); exact BK282.out⟩, ⟨by repeat (first | (with_reducible first | exact HB.out | apply below_alloc | apply pw_below_drewN | apply below_drew1 | refine below_set ?_ GE267.out | refine below_set ?_ GE274.out | refine below_set ?_ GE282.out) | exact HB.out)⟩⟩
          case round =>
            clear H'
            try clear c1
            try clear c2
            try clear p2
            try clear c5
            try clear c11
            try clear c16
            try clear c17
            try clear c18
            try clear c18b0
            try clear c18b1
            try clear c20
            try clear c21
            try clear c22
            try clear c23
            try clear c27
            try clear c28
            try clear hcz12_0
            try clear hcz12_1
            try clear hcz14_0
            try clear hcz14_1
            try clear hcz24_0
            try clear hcz24_1
            try clear hcz29_0
            try clear hcz29_1
            try clear hcz31_0
            try clear hcz31_1
            try clear hcz33_0
            try clear hcz33_1
            try clear hcz34_0
            try clear hcz34_1
            try clear hcz36_0
            try clear hcz36_1
            try clear hcz8_0
            try clear hcz8_1
            try clear hfz12_0
            try clear hfz12_1
            try clear hfz14_0
            try clear hfz14_1
            try clear hfz24_0
            try clear hfz24_1
            try clear hfz29_0
            try clear hfz29_1
            try clear hfz31_0
            try clear hfz31_1
            try clear hfz33_0
            try clear hfz33_1
            try clear hfz34_0
            try clear hfz34_1
            try clear hfz36_0
            try clear hfz36_1
            try clear hfz8_0
            try clear hfz8_1
            try clear p2
            obtain ⟨x14_2, rfl, HA, HK2, HO_275001, HO_283001, BK267, BK274, BK282, HB⟩ := hrel
            cases gk with
            | zero => exact absurd HA.out (by simp [blotterlaw03_ChangeOnce.l0])
            | succ k2 =>
              have H := HA.out
              clear HA
              simp only [blotterlaw03_ChangeOnce.l0] at H
              by_cases c38 : x14_2 < (t270.length : Int)
              · rw [if_pos c38] at H
                have c38b0 : decide (x14_2 < (t270.length : Int)) = true := decide_eq_true c38
                clear c38
                have HC39 := Aside0.mk H
                clear H
                have hnb40 := NB274_267.out
                have hnc40 := NB267_274.out
                have hnb41 := NB274_282.out
                have hnc41 := NB282_274.out
                have hcz42_0 : wr.cell? ⟨gb274, 0, none⟩ = some (.int .i64 t269) := (blk_cell BK274.out 0).trans rfl
                have hcz42_1 : wr.cell? ⟨gb274, 1, none⟩ = some (.slice Ao13 t270.length co13) := (blk_cell BK274.out 1).trans rfl
                have hfz42_0 := blk_frozen BK274.out 0
                have hfz42_1 := blk_frozen BK274.out 1
                go_upto_region 15 with (fail)
                go_cut [83] (fun v83 wc => ∃ (kq : Nat) (x83_38 : Bool), v83 = .bool x83_38 ∧ Aside0 (blotterlaw03_ChangeOnce.j2 kq t275 t281 t283 t284 t285 t286 x14_2 x83_38 t269 t270 = some r) ∧ Aside0 (kq ≤ k2) ∧ Aside0 (Kd.V k43 43 wc w.heap.size (fun k_ => k_ ≠ gb267 ∧ k_ ≠ gb274 ∧ k_ ≠ gb282) (.slice Ao13 t270.length co13) t270) ∧ Aside0 (Kd.V k43 43 wc w.heap.size (fun k_ => k_ ≠ gb267 ∧ k_ ≠ gb274 ∧ k_ ≠ gb282) (.slice Ao30 t278.length co30) t278) ∧ Aside0 (wc.heap[gb267]? = some (.cells #[.int .i64 a0_0, (.slice A0_1 l0_1.length c0_1)] 26 (0, 0))) ∧ Aside0 (wc.heap[gb274]? = some (.cells #[.int .i64 t269, (.slice Ao13 t270.length co13)] 26 (0, 0))) ∧ Aside0 (wc.heap[gb282]? = some (.cells #[.int .i64 t277, (.slice Ao30 t278.length co30)] 26 (0, 0))) ∧ Aside0 (Below w.heap.size w wc))
                case first =>
                  have H := HC39.out
                  clear HC39
                  obtain ⟨ji43, hji43⟩ : ∃ j_ : Int, (wrap64 (x14_2 - 1)) = j_ := ⟨_, rfl⟩
                  replace H : (if 0 ≤ (ji43) then (if (ji43) < (t270.length : Int) then (if ((rd_T43 t270 (ji43)).f0) = 3 then (if 0 ≤ x14_2 then (blotterlaw03_ChangeOnce.j2 k2 t275 t281 t283 t284 t285 t286 x14_2 (((rd_T43 t270 x14_2).f0) != 1) t269 t270) else (none)) else (blotterlaw03_ChangeOnce.j2 k2 t275 t281 t283 t284 t285 t286 x14_2 false t269 t270)) else (none)) else (none)) = some r := by first | (rw [hji43] at H; exact H) | (simp only [hji43] at H ⊢; exact H)
                  have hji43w : (IntKind.i64.wrap (x14_2 - 1)) = ji43 := (i64_w _).trans hji43
                  by_cases c44 : 0 ≤ (ji43)
                  · rw [if_pos c44] at H
                    have c44b0 : decide (0 ≤ (ji43)) = true := decide_eq_true c44
                    clear c44
                    (first | rw [c44b0] | (simp only [i64_w, i32_w]; rw [c44b0]) | skip)
                    by_cases c45 : (ji43) < (t270.length : Int)
                    · rw [if_pos c45] at H
                      have c45b0 : decide ((ji43) < (t270.length : Int)) = true := decide_eq_true c45
                      clear c45
                      by_cases c46 : ((rd_T43 t270 (ji43)).f0) = 3
                      · rw [if_pos c46] at H
                        have c46b0 : (((rd_T43 t270 (ji43)).f0) == 3) = true := beq_iff_eq.mpr c46
                        have c46b1 : (((rd_T43 t270 (ji43)).f0) != 3) = false := bne_eq_false_iff_eq.mpr c46
                        clear c46
                        by_cases c47 : 0 ≤ x14_2
                        · rw [if_pos c47] at H
                          have c47b0 : decide (0 ≤ x14_2) = true := decide_eq_true c47
                          clear c47
                          have H' := Aside0.mk H
                          clear H
                          have hnb48 := NB274_267.out
                          have hnc48 := NB267_274.out
                          have hnb49 := NB274_282.out
                          have hnc49 := NB282_274.out
                          have hcz50_0 : wr.cell? ⟨gb274, 0, none⟩ = some (.int .i64 t269) := (blk_cell BK274.out 0).trans rfl
                          have hcz50_1 : wr.cell? ⟨gb274, 1, none⟩ = some (.slice Ao13 t270.length co13) := (blk_cell BK274.out 1).trans rfl
                          have hfz50_0 := blk_frozen BK274.out 0
                          have hfz50_1 := blk_frozen BK274.out 1
                          have p289 : 0 ≤ ((ji43) : Int) := of_decide_eq_true (by first | (with_reducible assumption) | assumption)
                          have q289 : (ji43) < (t270.length : Int) := of_decide_eq_true (by first | (with_reducible assumption) | assumption)
                          obtain ⟨ad289, A289_3, c289_3, e289, hx289_0, hx289_1, hx289_2, hx289_3, hl289_3, hi289_3⟩ := at_T43 (Kd.V_reads' HO_275001.out).2.2 (ji43) p289 q289
                          cases e289
                          obtain ⟨ce289, hce289, hMe289, hcc289⟩ := Kd.V_get HO_275001.out z43 (ji43) p289 (by first | exact q289 | exact of_decide_eq_true (by first | (with_reducible assumption) | assumption) | (have e_ := (Kd.V_reads' HO_275001.out).1; omega))
                          obtain ⟨ua289_3, uc289_3, rfl, ul289_3, ge289_3⟩ := k43_openF hMe289
                          have hv289_3 := hcc289 3 _ rfl
                          rw [add_field _ _ 3 (by omega)] at hv289_3
                          replace hv289_3 := Option.some.inj (hv289_3.symm.trans hx289_3)
                          injection hv289_3 with hva_ hvn_ hvc_
                          rw [hva_] at ge289_3
                          rw [hvc_] at ul289_3
                          have HL289_3 := Aside0.mk (show Kd.V k90 90 _ w.heap.size _ _ ((rd_T43 t270 (ji43)).f3) from Kd.V_mk ul289_3 ge289_3)
                          clear hva_ hvn_ hvc_ ge289_3 ul289_3
                          clear hcc289 hce289
                          have HR289_3 := Aside0.mk hi289_3
                          have HC289_3 := Aside0.mk hl289_3
                          clear hi289_3 hl289_3
                          replace p289 := eq_true p289
                          replace q289 := eq_true q289
                          have p290 : 0 ≤ (x14_2 : Int) := of_decide_eq_true (by first | (with_reducible assumption) | assumption)
                          have q290 : x14_2 < (t270.length : Int) := of_decide_eq_true (by first | (with_reducible assumption) | assumption)
                          obtain ⟨ad290, A290_3, c290_3, e290, hx290_0, hx290_1, hx290_2, hx290_3, hl290_3, hi290_3⟩ := at_T43 (Kd.V_reads' HO_275001.out).2.2 x14_2 p290 q290
                          obtain rfl : ad289 = ad290 := (by injection e290)
                          obtain ⟨ce290, hce290, hMe290, hcc290⟩ := Kd.V_get HO_275001.out z43 x14_2 p290 (by first | exact q290 | exact of_decide_eq_true (by first | (with_reducible assumption) | assumption) | (have e_ := (Kd.V_reads' HO_275001.out).1; omega))
                          obtain ⟨ua290_3, uc290_3, rfl, ul290_3, ge290_3⟩ := k43_openF hMe290
                          have hv290_3 := hcc290 3 _ rfl
                          rw [add_field _ _ 3 (by omega)] at hv290_3
                          replace hv290_3 := Option.some.inj (hv290_3.symm.trans hx290_3)
                          injection hv290_3 with hva_ hvn_ hvc_
                          rw [hva_] at ge290_3
                          rw [hvc_] at ul290_3
                          have HL290_3 := Aside0.mk (show Kd.V k90 90 _ w.heap.size _ _ ((rd_T43 t270 x14_2).f3) from Kd.V_mk ul290_3 ge290_3)
                          clear hva_ hvn_ hvc_ ge290_3 ul290_3
                          clear hcc290 hce290
                          have HR290_3 := Aside0.mk hi290_3
                          have HC290_3 := Aside0.mk hl290_3
                          clear hi290_3 hl290_3
                          replace p290 := eq_true p290
                          replace q290 := eq_true q290
                          go_wp2
                          go_meet
                          case rel => exact ⟨_, ((((rd_T43 t270 x14_2).f0) != 1)), (by first | rfl | (simp; done) | (simp [*]; done)), H', ⟨by have := HJ4.out; have := HK2.out; first | omega | exact Nat.le_refl _⟩, ⟨by (with_reducible repeat (first | apply Kd.V_alloc | apply Kd.V_drewN | apply Kd.V_drew)); exact HO_275001.out⟩, ⟨by (with_reducible repeat (first | apply Kd.V_alloc | apply Kd.V_drewN | apply Kd.V_drew)); exact HO_283001.out⟩, ⟨by (with_reducible repeat (first | refine blk_drewN ?_ _ | refine blk_drew ?_ | refine blk_alloc ?_ _)); exact BK267.out⟩, ⟨by (with_reducible repeat (first | refine blk_drewN ?_ _ | refine blk_drew ?_ | refine blk_alloc ?_ _)); exact BK274.out⟩, ⟨by (with_reducible repeat (first | refine blk_drewN ?_ _ | refine blk_drew ?_ | refine blk_alloc ?_ _)); exact BK282.out⟩, ⟨by repeat (first | (with_reducible first | exact HB.out | apply below_alloc | apply pw_below_drewN | apply below_drew1 | refine below_set ?_ GE267.out | refine below_set ?_ GE274.out | refine below_set ?_ GE282.out) | exact HB.out)⟩⟩
                        · rw [if_neg c47] at H
                          exact absurd H (by simp)
                      · rw [if_neg c46] at H
                        have c46b0 : (((rd_T43 t270 (ji43)).f0) == 3) = false := beq_eq_false_iff_ne.mpr c46
                        have c46b1 : (((rd_T43 t270 (ji43)).f0) != 3) = true := bne_iff_ne.mpr c46
                        have H' := Aside0.mk H
                        clear H
                        have hnb51 := NB274_267.out
                        have hnc51 := NB267_274.out
                        have hnb52 := NB274_282.out
                        have hnc52 := NB282_274.out
                        have hcz53_0 : wr.cell? ⟨gb274, 0, none⟩ = some (.int .i64 t269) := (blk_cell BK274.out 0).trans rfl
                        have hcz53_1 : wr.cell? ⟨gb274, 1, none⟩ = some (.slice Ao13 t270.length co13) := (blk_cell BK274.out 1).trans rfl
                        have hfz53_0 := blk_frozen BK274.out 0
                        have hfz53_1 := blk_frozen BK274.out 1
                        have p289 : 0 ≤ ((ji43) : Int) := of_decide_eq_true (by first | (with_reducible assumption) | assumption)
                        have q289 : (ji43) < (t270.length : Int) := of_decide_eq_true (by first | (with_reducible assumption) | assumption)
                        obtain ⟨ad289, A289_3, c289_3, e289, hx289_0, hx289_1, hx289_2, hx289_3, hl289_3, hi289_3⟩ := at_T43 (Kd.V_reads' HO_275001.out).2.2 (ji43) p289 q289
                        cases e289
                        obtain ⟨ce289, hce289, hMe289, hcc289⟩ := Kd.V_get HO_275001.out z43 (ji43) p289 (by first | exact q289 | exact of_decide_eq_true (by first | (with_reducible assumption) | assumption) | (have e_ := (Kd.V_reads' HO_275001.out).1; omega))
                        obtain ⟨ua289_3, uc289_3, rfl, ul289_3, ge289_3⟩ := k43_openF hMe289
                        have hv289_3 := hcc289 3 _ rfl
                        rw [add_field _ _ 3 (by omega)] at hv289_3
                        replace hv289_3 := Option.some.inj (hv289_3.symm.trans hx289_3)
                        injection hv289_3 with hva_ hvn_ hvc_
                        rw [hva_] at ge289_3
                        rw [hvc_] at ul289_3
                        have HL289_3 := Aside0.mk (show Kd.V k90 90 _ w.heap.size _ _ ((rd_T43 t270 (ji43)).f3) from Kd.V_mk ul289_3 ge289_3)
                        clear hva_ hvn_ hvc_ ge289_3 ul289_3
                        clear hcc289 hce289
                        have HR289_3 := Aside0.mk hi289_3
                        have HC289_3 := Aside0.mk hl289_3
                        clear hi289_3 hl289_3
                        replace p289 := eq_true p289
                        replace q289 := eq_true q289
                        go_wp2
                        go_meet
                        case rel => exact ⟨_, (false), (by first | rfl | (simp; done) | (simp [*]; done)), H', ⟨by have := HJ4.out; have := HK2.out; first | omega | exact Nat.le_refl _⟩, ⟨by (with_reducible repeat (first | apply Kd.V_alloc | apply Kd.V_drewN | apply Kd.V_drew)); exact HO_275001.out⟩, ⟨by (with_reducible repeat (first | apply Kd.V_alloc | apply Kd.V_drewN | apply Kd.V_drew)); exact HO_283001.out⟩, ⟨by (with_reducible repeat (first | refine blk_drewN ?_ _ | refine blk_drew ?_ | refine blk_alloc ?_ _)); exact BK267.out⟩, ⟨by (with_reducible repeat (first | refine blk_drewN ?_ _ | refine blk_drew ?_ | refine blk_alloc ?_ _)); exact BK274.out⟩, ⟨by (with_reducible repeat (first | refine blk_drewN ?_ _ | refine blk_drew ?_ | refine blk_alloc ?_ _)); exact BK282.out⟩, ⟨by repeat (first | (with_reducible first | exact HB.out | apply below_alloc | apply pw_below_drewN | apply below_drew1 | refine below_set ?_ GE267.out | refine below_set ?_ GE274.out | refine below_set ?_ GE282.out) | exact HB.out)⟩⟩
                    · rw [if_neg c45] at H
                      exact absurd H (by simp)
                  · rw [if_neg c44] at H
                    exact absurd H (by simp)
                case rest =>
                  clear HC39
                  try clear c1
                  try clear c2
                  try clear p2
                  try clear q2
                  try clear hx2
                  try clear c3
                  try clear c4
                  try clear c5
                  try clear p6
                  try clear c11
                  try clear c16
                  try clear c17
                  try clear c18
                  try clear c18b0
                  try clear c18b1
                  try clear c20
                  try clear c21
                  try clear c22
                  try clear c23
                  try clear c27
                  try clear c28
                  try clear p28
                  try clear q28
                  try clear hx28
                  try clear c29
                  try clear p29
                  try clear q29
                  try clear hx29
                  try clear c38
                  try clear c38b0
                  try clear c40
                  try clear c41
                  try clear c44
                  try clear c44b0
                  try clear c45
                  try clear c45b0
                  try clear c46
                  try clear c46b0
                  try clear c46b1
                  try clear c47
                  try clear c47b0
                  try clear c48
                  try clear c49
                  try clear c51
                  try clear c52
                  try clear hcz12_0
                  try clear hcz12_1
                  try clear hcz14_0
                  try clear hcz14_1
                  try clear hcz24_0
                  try clear hcz24_1
                  try clear hcz29_0
                  try clear hcz29_1
                  try clear hcz31_0
                  try clear hcz31_1
                  try clear hcz33_0
                  try clear hcz33_1
                  try clear hcz34_0
                  try clear hcz34_1
                  try clear hcz36_0
                  try clear hcz36_1
                  try clear hcz42_0
                  try clear hcz42_1
                  try clear hcz50_0
                  try clear hcz50_1
                  try clear hcz53_0
                  try clear hcz53_1
                  try clear hcz8_0
                  try clear hcz8_1
                  try clear hfz12_0
                  try clear hfz12_1
                  try clear hfz14_0
                  try clear hfz14_1
                  try clear hfz24_0
                  try clear hfz24_1
                  try clear hfz29_0
                  try clear hfz29_1
                  try clear hfz31_0
                  try clear hfz31_1
                  try clear hfz33_0
                  try clear hfz33_1
                  try clear hfz34_0
                  try clear hfz34_1
                  try clear hfz36_0
                  try clear hfz36_1
                  try clear hfz42_0
                  try clear hfz42_1
                  try clear hfz50_0
                  try clear hfz50_1
                  try clear hfz53_0
                  try clear hfz53_1
                  try clear hfz8_0
                  try clear hfz8_1
                  try clear hx289_0
                  try clear hx289_1
                  try clear hx289_2
                  try clear hx289_3
                  try clear hx290_0
                  try clear hx290_1
                  try clear hx290_2
                  try clear hx290_3
                  try clear p2
                  try clear p289
                  try clear p290
                  try clear q289
                  try clear q290
                  obtain ⟨kq, x83_38, rfl, HA, HJ38, HO_275001, HO_283001, BK267, BK274, BK282, HB⟩ := hcut
                  cases kq with
                  | zero => exact absurd HA.out (by simp [blotterlaw03_ChangeOnce.j2])
                  | succ kj38 =>
                    have H := HA.out
                    clear HA
                    simp only [blotterlaw03_ChangeOnce.j2] at H
                    by_cases c54 : x83_38 = true
                    · subst c54
                      have H1 : (none) = some r := by rw [if_pos rfl] at H; exact H
                      clear H
                      have H := H1
                      clear H1
                      exact absurd H (by simp)
                    · replace c54 := Bool.eq_false_iff.mpr c54
                      subst c54
                      have H1 : (blotterlaw03_ChangeOnce.l0 kj38 t275 t281 t283 t284 t285 t286 (wrap64 (x14_2 + 1)) t269 t270) = some r := by rw [if_neg (show ¬ (false = true) by decide)] at H; exact H
                      clear H
                      have H := H1
                      clear H1
                      have H' := Aside0.mk H
                      clear H
                      go_wp2
                      go_roundg kj38
                      case measure => have := HJ4.out; have := HK2.out; have := HJ38.out; omega
                      case rel => exact ⟨(wrap64 (x14_2 + 1)), (by first | rfl | (simp; done) | (simp [*]; done)), H', ⟨by have := HJ4.out; have := HK2.out; have := HJ38.out; omega⟩, ⟨by (with_reducible repeat (first | apply Kd.V_alloc | apply Kd.V_drewN | apply Kd.V_drew)); exact HO_275001.out⟩, ⟨by (with_reducible repeat (first | apply Kd.V_alloc | apply Kd.V_drewN | apply Kd.V_drew)); exact HO_283001.out⟩, ⟨by (with_reducible repeat (first | refine blk_drewN ?_ _ | refine blk_drew ?_ | refine blk_alloc ?_ _)); exact BK267.out⟩, ⟨by (with_reducible repeat (first | refine blk_drewN ?_ _ | refine blk_drew ?_ | refine blk_alloc ?_ _)); exact BK274.out⟩, ⟨by (with_reducible repeat (first | refine blk_drewN ?_ _ | refine blk_drew ?_ | refine blk_alloc ?_ _)); exact BK282.out⟩, ⟨by repeat (first | (with_reducible first | exact HB.out | apply below_alloc | apply pw_below_drewN | apply below_drew1 | refine below_set ?_ GE267.out | refine below_set ?_ GE274.out | refine below_set ?_ GE282.out) | exact HB.out)⟩⟩
              · rw [if_neg c38] at H
                have c38b0 : decide (x14_2 < (t270.length : Int)) = false := decide_eq_false c38
                clear c38
                by_cases c55 : t281 = 0
                · rw [if_pos c55] at H
                  have c55b0 : (t281 == 0) = true := beq_iff_eq.mpr c55
                  have c55b1 : (t281 != 0) = false := bne_eq_false_iff_eq.mpr c55
                  clear c55
                  by_cases c56 : t284 = 0
                  · rw [if_pos c56] at H
                    have c56b0 : (t284 == 0) = true := beq_iff_eq.mpr c56
                    have c56b1 : (t284 != 0) = false := bne_eq_false_iff_eq.mpr c56
                    clear c56
                    by_cases c57 : t285 = true
                    · subst c57
                      have H1 : (if t286 = true then (if t275 = t283 then (if (wrap64 ((t270.length : Int) - 1)) < 0 then (some true) else (if 0 ≤ (wrap64 ((t270.length : Int) - 1)) then (if (wrap64 ((t270.length : Int) - 1)) < (t270.length : Int) then (if ((rd_T43 t270 (wrap64 ((t270.length : Int) - 1))).f0) = 1 then (some (decide ((((rd_T43 t270 (wrap64 ((t270.length : Int) - 1))).f3).length : Int) > 0))) else (some true)) else (none)) else (none))) else (none)) else (none)) = some r := by rw [if_pos rfl] at H; exact H
                      clear H
                      have H := H1
                      clear H1
                      by_cases c58 : t286 = true
                      · subst c58
                        have H1 : (if t275 = t283 then (if (wrap64 ((t270.length : Int) - 1)) < 0 then (some true) else (if 0 ≤ (wrap64 ((t270.length : Int) - 1)) then (if (wrap64 ((t270.length : Int) - 1)) < (t270.length : Int) then (if ((rd_T43 t270 (wrap64 ((t270.length : Int) - 1))).f0) = 1 then (some (decide ((((rd_T43 t270 (wrap64 ((t270.length : Int) - 1))).f3).length : Int) > 0))) else (some true)) else (none)) else (none))) else (none)) = some r := by rw [if_pos rfl] at H; exact H
                        clear H
                        have H := H1
                        clear H1
                        by_cases c59 : t275 = t283
                        · rw [if_pos c59] at H
                          have c59b0 : (t275 == t283) = true := beq_iff_eq.mpr c59
                          have c59b1 : (t275 != t283) = false := bne_eq_false_iff_eq.mpr c59
                          clear c59
                          by_cases c60 : (wrap64 ((t270.length : Int) - 1)) < 0
                          · rw [if_pos c60] at H
                            have c60b0 : decide ((wrap64 ((t270.length : Int) - 1)) < 0) = true := decide_eq_true c60
                            clear c60
                            obtain rfl := Option.some.inj H
                            have hnb61 := NB274_267.out
                            have hnc61 := NB267_274.out
                            have hnb62 := NB274_282.out
                            have hnc62 := NB282_274.out
                            have hcz63_0 : wr.cell? ⟨gb274, 0, none⟩ = some (.int .i64 t269) := (blk_cell BK274.out 0).trans rfl
                            have hcz63_1 : wr.cell? ⟨gb274, 1, none⟩ = some (.slice Ao13 t270.length co13) := (blk_cell BK274.out 1).trans rfl
                            have hfz63_0 := blk_frozen BK274.out 0
                            have hfz63_1 := blk_frozen BK274.out 1
                            go_wp2
                            go_ret
                            exact ⟨by first | rfl | (simp [ne_nil_b, eq_nil_b]; done) | (simp [errW_none, errW_some] <;> rfl) | (simp [*, errW_none, errW_some] <;> rfl), by repeat (first | (with_reducible first | exact HB.out | apply below_alloc | apply pw_below_drewN | apply below_drew1 | refine below_set ?_ GE267.out | refine below_set ?_ GE274.out | refine below_set ?_ GE282.out) | exact HB.out)⟩
                          · rw [if_neg c60] at H
                            have c60b0 : decide ((wrap64 ((t270.length : Int) - 1)) < 0) = false := decide_eq_false c60
                            clear c60
                            obtain ⟨ji64, hji64⟩ : ∃ j_ : Int, (wrap64 ((t270.length : Int) - 1)) = j_ := ⟨_, rfl⟩
                            replace H : (if 0 ≤ (ji64) then (if (ji64) < (t270.length : Int) then (if ((rd_T43 t270 (ji64)).f0) = 1 then (some (decide ((((rd_T43 t270 (ji64)).f3).length : Int) > 0))) else (some true)) else (none)) else (none)) = some r := by first | (rw [hji64] at H; exact H) | (simp only [hji64] at H ⊢; exact H)
                            (try rw [hji64] at c60b0)
                            have hji64w : (IntKind.i64.wrap ((t270.length : Int) - 1)) = ji64 := (i64_w _).trans hji64
                            by_cases c65 : 0 ≤ (ji64)
                            · rw [if_pos c65] at H
                              have c65b0 : decide (0 ≤ (ji64)) = true := decide_eq_true c65
                              clear c65
                              by_cases c66 : (ji64) < (t270.length : Int)
                              · rw [if_pos c66] at H
                                have c66b0 : decide ((ji64) < (t270.length : Int)) = true := decide_eq_true c66
                                clear c66
                                by_cases c67 : ((rd_T43 t270 (ji64)).f0) = 1
                                · rw [if_pos c67] at H
                                  have c67b0 : (((rd_T43 t270 (ji64)).f0) == 1) = true := beq_iff_eq.mpr c67
                                  have c67b1 : (((rd_T43 t270 (ji64)).f0) != 1) = false := bne_eq_false_iff_eq.mpr c67
                                  clear c67
                                  obtain rfl := Option.some.inj H
                                  have hnb68 := NB274_267.out
                                  have hnc68 := NB267_274.out
                                  have hnb69 := NB274_282.out
                                  have hnc69 := NB282_274.out
                                  have hcz70_0 : wr.cell? ⟨gb274, 0, none⟩ = some (.int .i64 t269) := (blk_cell BK274.out 0).trans rfl
                                  have hcz70_1 : wr.cell? ⟨gb274, 1, none⟩ = some (.slice Ao13 t270.length co13) := (blk_cell BK274.out 1).trans rfl
                                  have hfz70_0 := blk_frozen BK274.out 0
                                  have hfz70_1 := blk_frozen BK274.out 1
                                  have p287 : 0 ≤ ((ji64) : Int) := of_decide_eq_true (by first | (with_reducible assumption) | assumption)
                                  have q287 : (ji64) < (t270.length : Int) := of_decide_eq_true (by first | (with_reducible assumption) | assumption)
                                  obtain ⟨ad287, A287_3, c287_3, e287, hx287_0, hx287_1, hx287_2, hx287_3, hl287_3, hi287_3⟩ := at_T43 (Kd.V_reads' HO_275001.out).2.2 (ji64) p287 q287
                                  cases e287
                                  obtain ⟨ce287, hce287, hMe287, hcc287⟩ := Kd.V_get HO_275001.out z43 (ji64) p287 (by first | exact q287 | exact of_decide_eq_true (by first | (with_reducible assumption) | assumption) | (have e_ := (Kd.V_reads' HO_275001.out).1; omega))
                                  obtain ⟨ua287_3, uc287_3, rfl, ul287_3, ge287_3⟩ := k43_openF hMe287
                                  have hv287_3 := hcc287 3 _ rfl
                                  rw [add_field _ _ 3 (by omega)] at hv287_3
                                  replace hv287_3 := Option.some.inj (hv287_3.symm.trans hx287_3)
                                  injection hv287_3 with hva_ hvn_ hvc_
                                  rw [hva_] at ge287_3
                                  rw [hvc_] at ul287_3
                                  have HL287_3 := Aside0.mk (show Kd.V k90 90 _ w.heap.size _ _ ((rd_T43 t270 (ji64)).f3) from Kd.V_mk ul287_3 ge287_3)
                                  clear hva_ hvn_ hvc_ ge287_3 ul287_3
                                  clear hcc287 hce287
                                  have HR287_3 := Aside0.mk hi287_3
                                  have HC287_3 := Aside0.mk hl287_3
                                  clear hi287_3 hl287_3
                                  replace p287 := eq_true p287
                                  replace q287 := eq_true q287
                                  have p288 : 0 ≤ ((ji64) : Int) := of_decide_eq_true (by first | (with_reducible assumption) | assumption)
                                  have q288 : (ji64) < (t270.length : Int) := of_decide_eq_true (by first | (with_reducible assumption) | assumption)
                                  obtain ⟨ad288, A288_3, c288_3, e288, hx288_0, hx288_1, hx288_2, hx288_3, hl288_3, hi288_3⟩ := at_T43 (Kd.V_reads' HO_275001.out).2.2 (ji64) p288 q288
                                  obtain rfl : ad287 = ad288 := (by injection e288)
                                  obtain ⟨ce288, hce288, hMe288, hcc288⟩ := Kd.V_get HO_275001.out z43 (ji64) p288 (by first | exact q288 | exact of_decide_eq_true (by first | (with_reducible assumption) | assumption) | (have e_ := (Kd.V_reads' HO_275001.out).1; omega))
                                  obtain ⟨ua288_3, uc288_3, rfl, ul288_3, ge288_3⟩ := k43_openF hMe288
                                  have hv288_3 := hcc288 3 _ rfl
                                  rw [add_field _ _ 3 (by omega)] at hv288_3
                                  replace hv288_3 := Option.some.inj (hv288_3.symm.trans hx288_3)
                                  injection hv288_3 with hva_ hvn_ hvc_
                                  rw [hva_] at ge288_3
                                  rw [hvc_] at ul288_3
                                  have HL288_3 := Aside0.mk (show Kd.V k90 90 _ w.heap.size _ _ ((rd_T43 t270 (ji64)).f3) from Kd.V_mk ul288_3 ge288_3)
                                  clear hva_ hvn_ hvc_ ge288_3 ul288_3
                                  clear hcc288 hce288
                                  have HR288_3 := Aside0.mk hi288_3
                                  have HC288_3 := Aside0.mk hl288_3
                                  clear hi288_3 hl288_3
                                  replace p288 := eq_true p288
                                  replace q288 := eq_true q288
                                  have ea_ := Option.some.inj (hx287_3.symm.trans hx288_3)
                                  injection ea_ with ea_ en_ ec_
                                  subst ea_
                                  subst ec_
                                  clear en_
                                  go_wp2
                                  go_ret
                                  exact ⟨by first | rfl | (simp [ne_nil_b, eq_nil_b]; done) | (simp [errW_none, errW_some] <;> rfl) | (simp only [← hji64]; first | rfl | (simp [errW_none, errW_some] <;> rfl)) | (simp [*, errW_none, errW_some] <;> rfl), by repeat (first | (with_reducible first | exact HB.out | apply below_alloc | apply pw_below_drewN | apply below_drew1 | refine below_set ?_ GE267.out | refine below_set ?_ GE274.out | refine below_set ?_ GE282.out) | exact HB.out)⟩
                                · rw [if_neg c67] at H
                                  have c67b0 : (((rd_T43 t270 (ji64)).f0) == 1) = false := beq_eq_false_iff_ne.mpr c67
                                  have c67b1 : (((rd_T43 t270 (ji64)).f0) != 1) = true := bne_iff_ne.mpr c67
                                  obtain rfl := Option.some.inj H
                                  have hnb71 := NB274_267.out
                                  have hnc71 := NB267_274.out
                                  have hnb72 := NB274_282.out
                                  have hnc72 := NB282_274.out
                                  have hcz73_0 : wr.cell? ⟨gb274, 0, none⟩ = some (.int .i64 t269) := (blk_cell BK274.out 0).trans rfl
                                  have hcz73_1 : wr.cell? ⟨gb274, 1, none⟩ = some (.slice Ao13 t270.length co13) := (blk_cell BK274.out 1).trans rfl
                                  have hfz73_0 := blk_frozen BK274.out 0
                                  have hfz73_1 := blk_frozen BK274.out 1
                                  have p287 : 0 ≤ ((ji64) : Int) := of_decide_eq_true (by first | (with_reducible assumption) | assumption)
                                  have q287 : (ji64) < (t270.length : Int) := of_decide_eq_true (by first | (with_reducible assumption) | assumption)
                                  obtain ⟨ad287, A287_3, c287_3, e287, hx287_0, hx287_1, hx287_2, hx287_3, hl287_3, hi287_3⟩ := at_T43 (Kd.V_reads' HO_275001.out).2.2 (ji64) p287 q287
                                  cases e287
                                  obtain ⟨ce287, hce287, hMe287, hcc287⟩ := Kd.V_get HO_275001.out z43 (ji64) p287 (by first | exact q287 | exact of_decide_eq_true (by first | (with_reducible assumption) | assumption) | (have e_ := (Kd.V_reads' HO_275001.out).1; omega))
                                  obtain ⟨ua287_3, uc287_3, rfl, ul287_3, ge287_3⟩ := k43_openF hMe287
                                  have hv287_3 := hcc287 3 _ rfl
                                  rw [add_field _ _ 3 (by omega)] at hv287_3
                                  replace hv287_3 := Option.some.inj (hv287_3.symm.trans hx287_3)
                                  injection hv287_3 with hva_ hvn_ hvc_
                                  rw [hva_] at ge287_3
                                  rw [hvc_] at ul287_3
                                  have HL287_3 := Aside0.mk (show Kd.V k90 90 _ w.heap.size _ _ ((rd_T43 t270 (ji64)).f3) from Kd.V_mk ul287_3 ge287_3)
                                  clear hva_ hvn_ hvc_ ge287_3 ul287_3
                                  clear hcc287 hce287
                                  have HR287_3 := Aside0.mk hi287_3
                                  have HC287_3 := Aside0.mk hl287_3
                                  clear hi287_3 hl287_3
                                  replace p287 := eq_true p287
                                  replace q287 := eq_true q287
                                  go_wp2
                                  go_ret
                                  exact ⟨by first | rfl | (simp [ne_nil_b, eq_nil_b]; done) | (simp [errW_none, errW_some] <;> rfl) | (simp only [← hji64]; first | rfl | (simp [errW_none, errW_some] <;> rfl)) | (simp [*, errW_none, errW_some] <;> rfl), by repeat (first | (with_reducible first | exact HB.out | apply below_alloc | apply pw_below_drewN | apply below_drew1 | refine below_set ?_ GE267.out | refine below_set ?_ GE274.out | refine below_set ?_ GE282.out) | exact HB.out)⟩
                              · rw [if_neg c66] at H
                                exact absurd H (by simp)
                            · rw [if_neg c65] at H
                              exact absurd H (by simp)
                        · rw [if_neg c59] at H
                          exact absurd H (by simp)
                      · replace c58 := Bool.eq_false_iff.mpr c58
                        subst c58
                        have H1 : (none) = some r := by rw [if_neg (show ¬ (false = true) by decide)] at H; exact H
                        clear H
                        have H := H1
                        clear H1
                        exact absurd H (by simp)
                    · replace c57 := Bool.eq_false_iff.mpr c57
                      subst c57
                      have H1 : (none) = some r := by rw [if_neg (show ¬ (false = true) by decide)] at H; exact H
                      clear H
                      have H := H1
                      clear H1
                      exact absurd H (by simp)
                  · rw [if_neg c56] at H
                    exact absurd H (by simp)
                · rw [if_neg c55] at H
                  exact absurd H (by simp)
        · rw [if_neg c18] at H
          have c18b0 : (t273 == 0) = false := beq_eq_false_iff_ne.mpr c18
          have c18b1 : (t273 != 0) = true := bne_iff_ne.mpr c18
          by_cases c74 : t269 = 0
          · rw [if_pos c74] at H
            have c74b0 : (t269 == 0) = true := beq_iff_eq.mpr c74
            have c74b1 : (t269 != 0) = false := bne_eq_false_iff_eq.mpr c74
            clear c74
            obtain rfl := Option.some.inj H
            have hnb75 := NB274_267.out
            have hnc75 := NB267_274.out
            have hcz76_0 : wc.cell? ⟨gb274, 0, none⟩ = some (.int .i64 t269) := (blk_cell BK274.out 0).trans rfl
            have hcz76_1 : wc.cell? ⟨gb274, 1, none⟩ = some (.slice Ao13 t270.length co13) := (blk_cell BK274.out 1).trans rfl
            have hfz76_0 := blk_frozen BK274.out 0
            have hfz76_1 := blk_frozen BK274.out 1
            go_wp2
            go_ret
            exact ⟨by first | rfl | (simp [ne_nil_b, eq_nil_b]; done) | (simp [errW_none, errW_some] <;> rfl) | (simp [*, errW_none, errW_some] <;> rfl), by repeat (first | (with_reducible first | exact HB.out | apply below_alloc | apply pw_below_drewN | apply below_drew1 | refine below_set ?_ GE267.out | refine below_set ?_ GE274.out) | exact HB.out)⟩
          · rw [if_neg c74] at H
            exact absurd H (by simp)
end Go.Proofs.YtinbpjodheceoaaDoor.Sp
