/- Written by this session's programs (sprint.py, prune.py). -/
import Derived.Test.YtinbpjodheceoaaDoorXcSp0
import Derived.Test.YtinbpjodheceoaaDoorXcSp3
import Derived.Test.YtinbpjodheceoaaDoorXcSp6
import Derived.Test.YtinbpjodheceoaaDoorXcSp17
import Derived.Test.YtinbpjodheceoaaDoorXcSp20
import Derived.Test.YtinbpjodheceoaaDoorXcSp21
namespace Go.Proofs.YtinbpjodheceoaaDoor.Sp
open Go.RowKit Go.Proofs.YtinbpjodheceoaaDoorW.PrintWords Go.Proofs.YtinbpjodheceoaaDoorW.PrintLast Go.Proofs.YtinbpjodheceoaaDoorW.PrintMore
attribute [local go_sem] max2_int min2_int max_two min_two max_three min_three max_four min_four   -- for this text's walks alone
set_option linter.unusedVariables false
set_option linter.unusedSimpArgs false
attribute [local go_sem] own_leq own_gtr own_geq   -- for this text's walks alone
mutual
def blotterlaw08_AnchorPlain.j0 : Nat → Int → Bool → Int → Bool → Int → List (S43) → Option (Bool)
  | 0, _, _, _, _, _, _ => none
  | k + 1, x1, x5, x6, x31, x385000, x385001 => if x31 = true then (some x5) else ((anchor_End.f k x385000 x385001 0).bind fun bt388 => ((anchor_Start.f k x385000 x385001 x385000).bind fun bt390 => ((change_Nothing.f k x385000).bind fun bt392 => (if bt388.2 = 0 then (if bt390.2 = 0 then (if bt388.1 = 0 then (blotterlaw08_AnchorPlain.j1 k x1 (bt390.1 != x6) x385000 x385001 bt392.1 bt392.2.1) else (blotterlaw08_AnchorPlain.j1 k x1 true x385000 x385001 bt392.1 bt392.2.1)) else (blotterlaw08_AnchorPlain.j1 k x1 true x385000 x385001 bt392.1 bt392.2.1)) else (blotterlaw08_AnchorPlain.j1 k x1 true x385000 x385001 bt392.1 bt392.2.1)))))
def blotterlaw08_AnchorPlain.j1 : Nat → Int → Bool → Int → List (S43) → Int → List (S43) → Option (Bool)
  | 0, _, _, _, _, _, _ => none
  | k + 1, x1, x65, x385000, x385001, x398000, x398001 => if x65 = true then (none) else (if x1 < 0 then (blotterlaw08_AnchorPlain.j2 k x1 true x398000 x398001) else (blotterlaw08_AnchorPlain.j2 k x1 (decide (x1 > x385000)) x398000 x398001))
def blotterlaw08_AnchorPlain.j2 : Nat → Int → Bool → Int → List (S43) → Option (Bool)
  | 0, _, _, _, _ => none
  | k + 1, x1, x73, x398000, x398001 => if x73 = true then ((anchor_Start.f k x398000 x398001 x1).bind fun bt398 => (some (bt398.2 == 1))) else ((anchor_Start.f k x398000 x398001 x1).bind fun bt400 => ((anchor_End.f k x398000 x398001 x1).bind fun bt402 => (if bt400.2 = 0 then (if bt402.2 = 0 then (if bt400.1 = x1 then (some (bt402.1 == x1)) else (none)) else (none)) else (none))))
end
def blotterlaw08_AnchorPlain.f (k : Nat) (a0_0 : Int) (l0_1 : List (S43)) (a1 : Int) : Option (Bool) := (blotterlaw08_awake.f k).bind fun t385 => ((change_To.f k a0_0 l0_1).bind fun bt386 => (if t385 = true then (blotterlaw08_AnchorPlain.j0 k a1 t385 bt386.1 (bt386.2 != 0) a0_0 l0_1) else (blotterlaw08_AnchorPlain.j0 k a1 t385 bt386.1 true a0_0 l0_1)))
theorem blotterlaw08_AnchorPlain.mono_l : ∀ k, (∀ y0 y1 y2 y3 y4 y5, LeO (blotterlaw08_AnchorPlain.j0 k y0 y1 y2 y3 y4 y5) (blotterlaw08_AnchorPlain.j0 (k + 1) y0 y1 y2 y3 y4 y5)) ∧ (∀ y0 y1 y2 y3 y4 y5, LeO (blotterlaw08_AnchorPlain.j1 k y0 y1 y2 y3 y4 y5) (blotterlaw08_AnchorPlain.j1 (k + 1) y0 y1 y2 y3 y4 y5)) ∧ (∀ y0 y1 y2 y3, LeO (blotterlaw08_AnchorPlain.j2 k y0 y1 y2 y3) (blotterlaw08_AnchorPlain.j2 (k + 1) y0 y1 y2 y3))
  | 0 => ⟨fun _ _ _ _ _ _ r h => by simp [blotterlaw08_AnchorPlain.j0] at h, fun _ _ _ _ _ _ r h => by simp [blotterlaw08_AnchorPlain.j1] at h, fun _ _ _ _ r h => by simp [blotterlaw08_AnchorPlain.j2] at h⟩
  | k + 1 => by
    obtain ⟨ih0, ih1, ih2⟩ := blotterlaw08_AnchorPlain.mono_l k
    refine ⟨?_, ?_, ?_⟩
    · intro y0 y1 y2 y3 y4 y5
      unfold blotterlaw08_AnchorPlain.j0
      repeat' first
      | (with_reducible exact ih0 _ _ _ _ _ _)
      | (with_reducible exact ih1 _ _ _ _ _ _)
      | (with_reducible exact ih2 _ _ _ _)
      | (with_reducible exact anchor_End.mono _ _ _ _)
      | (with_reducible exact anchor_Start.mono _ _ _ _)
      | (with_reducible exact blotterlaw08_awake.mono _)
      | (with_reducible exact change_Nothing.mono _ _)
      | (with_reducible exact change_To.mono _ _ _)
      | (with_reducible exact LeO.refl _)
      | (with_reducible exact LeO.none _)
      | (with_reducible refine LeO.ite ?_ ?_)
      | (with_reducible refine LeO.bind ?_ (fun _ => ?_))
      | exact ih0 _ _ _ _ _ _
      | exact ih1 _ _ _ _ _ _
      | exact ih2 _ _ _ _
      | exact anchor_End.mono _ _ _ _
      | exact anchor_Start.mono _ _ _ _
      | exact blotterlaw08_awake.mono _
      | exact change_Nothing.mono _ _
      | exact change_To.mono _ _ _
      | exact LeO.none _
      | refine LeO.ite ?_ ?_
      | refine LeO.bind ?_ (fun _ => ?_)
    · intro y0 y1 y2 y3 y4 y5
      unfold blotterlaw08_AnchorPlain.j1
      repeat' first
      | (with_reducible exact ih0 _ _ _ _ _ _)
      | (with_reducible exact ih1 _ _ _ _ _ _)
      | (with_reducible exact ih2 _ _ _ _)
      | (with_reducible exact anchor_End.mono _ _ _ _)
      | (with_reducible exact anchor_Start.mono _ _ _ _)
      | (with_reducible exact blotterlaw08_awake.mono _)
      | (with_reducible exact change_Nothing.mono _ _)
      | (with_reducible exact change_To.mono _ _ _)
      | (with_reducible exact LeO.refl _)
      | (with_reducible exact LeO.none _)
      | (with_reducible refine LeO.ite ?_ ?_)
      | (with_reducible refine LeO.bind ?_ (fun _ => ?_))
      | exact ih0 _ _ _ _ _ _
      | exact ih1 _ _ _ _ _ _
      | exact ih2 _ _ _ _
      | exact anchor_End.mono _ _ _ _
      | exact anchor_Start.mono _ _ _ _
      | exact blotterlaw08_awake.mono _
      | exact change_Nothing.mono _ _
      | exact change_To.mono _ _ _
      | exact LeO.none _
      | refine LeO.ite ?_ ?_
      | refine LeO.bind ?_ (fun _ => ?_)
    · intro y0 y1 y2 y3
      unfold blotterlaw08_AnchorPlain.j2
      repeat' first
      | (with_reducible exact ih0 _ _ _ _ _ _)
      | (with_reducible exact ih1 _ _ _ _ _ _)
      | (with_reducible exact ih2 _ _ _ _)
      | (with_reducible exact anchor_End.mono _ _ _ _)
      | (with_reducible exact anchor_Start.mono _ _ _ _)
      | (with_reducible exact blotterlaw08_awake.mono _)
      | (with_reducible exact change_Nothing.mono _ _)
      | (with_reducible exact change_To.mono _ _ _)
      | (with_reducible exact LeO.refl _)
      | (with_reducible exact LeO.none _)
      | (with_reducible refine LeO.ite ?_ ?_)
      | (with_reducible refine LeO.bind ?_ (fun _ => ?_))
      | exact ih0 _ _ _ _ _ _
      | exact ih1 _ _ _ _ _ _
      | exact ih2 _ _ _ _
      | exact anchor_End.mono _ _ _ _
      | exact anchor_Start.mono _ _ _ _
      | exact blotterlaw08_awake.mono _
      | exact change_Nothing.mono _ _
      | exact change_To.mono _ _ _
      | exact LeO.none _
      | refine LeO.ite ?_ ?_
      | refine LeO.bind ?_ (fun _ => ?_)
theorem blotterlaw08_AnchorPlain.mono : ∀ a0 a1 a2 k, LeO (blotterlaw08_AnchorPlain.f k a0 a1 a2) (blotterlaw08_AnchorPlain.f (k + 1) a0 a1 a2) := by
  intro a0 a1 a2 k
  obtain ⟨ih0, ih1, ih2⟩ := blotterlaw08_AnchorPlain.mono_l k
  unfold blotterlaw08_AnchorPlain.f
  repeat' first
      | (with_reducible exact ih0 _ _ _ _ _ _)
      | (with_reducible exact ih1 _ _ _ _ _ _)
      | (with_reducible exact ih2 _ _ _ _)
      | (with_reducible exact anchor_End.mono _ _ _ _)
      | (with_reducible exact anchor_Start.mono _ _ _ _)
      | (with_reducible exact blotterlaw08_awake.mono _)
      | (with_reducible exact change_Nothing.mono _ _)
      | (with_reducible exact change_To.mono _ _ _)
      | (with_reducible exact LeO.refl _)
      | (with_reducible exact LeO.none _)
      | (with_reducible refine LeO.ite ?_ ?_)
      | (with_reducible refine LeO.bind ?_ (fun _ => ?_))
      | exact ih0 _ _ _ _ _ _
      | exact ih1 _ _ _ _ _ _
      | exact ih2 _ _ _ _
      | exact anchor_End.mono _ _ _ _
      | exact anchor_Start.mono _ _ _ _
      | exact blotterlaw08_awake.mono _
      | exact change_Nothing.mono _ _
      | exact change_To.mono _ _ _
      | exact LeO.none _
      | refine LeO.ite ?_ ?_
      | refine LeO.bind ?_ (fun _ => ?_)
set_option maxHeartbeats 8000000 in
set_option maxRecDepth 100000 in
theorem blotterlaw08_AnchorPlain.calls (k : Nat) (a0_0 : Int) (A0_1 : Option Addr) (c0_1 : Nat) (l0_1 : List (S43)) (a1 : Int) (r : Bool) (w : World) (hr0_1 : Kd.C k43 w A0_1 l0_1.length l0_1) (hc0_1 : l0_1.length ≤ c0_1) (hT_ : Tabs w) (h : blotterlaw08_AnchorPlain.f k a0_0 l0_1 a1 = some r) :
    Calls Tryd.prog 4 #[.agg #[.int .i64 a0_0, .slice A0_1 l0_1.length c0_1], .int .i64 a1] w fun e w' => e = .returned (.bool r) ∧ Below w.heap.size w w' := by
  have hu26 := Tryd.underlying26
  have HT_ := Aside0.mk hT_
  clear hT_
  have HR0_1 := Aside0.mk hr0_1
  have HC0_1 := Aside0.mk hc0_1
  clear hr0_1 hc0_1
  have HB := Aside0.mk (Below.refl w.heap.size w)
  have H : ((blotterlaw08_awake.f k).bind fun t385 => ((change_To.f k a0_0 l0_1).bind fun bt386 => (if t385 = true then (blotterlaw08_AnchorPlain.j0 k a1 t385 bt386.1 (bt386.2 != 0) a0_0 l0_1) else (blotterlaw08_AnchorPlain.j0 k a1 t385 bt386.1 true a0_0 l0_1)))) = some r := h
  clear h
  replace H := Option.bind_eq_some_iff.mp H
  obtain ⟨t385, A30, H⟩ := H
  replace H : ((change_To.f k a0_0 l0_1).bind fun bt386 => (if t385 = true then (blotterlaw08_AnchorPlain.j0 k a1 t385 bt386.1 (bt386.2 != 0) a0_0 l0_1) else (blotterlaw08_AnchorPlain.j0 k a1 t385 bt386.1 true a0_0 l0_1))) = some r := H
  have A3 := Aside0.mk A30
  clear A30
  replace H := Option.bind_eq_some_iff.mp H
  obtain ⟨⟨t386, t387⟩, A40, H⟩ := H
  replace H : (if t385 = true then (blotterlaw08_AnchorPlain.j0 k a1 t385 t386 (t387 != 0) a0_0 l0_1) else (blotterlaw08_AnchorPlain.j0 k a1 t385 t386 true a0_0 l0_1)) = some r := H
  have A4 := Aside0.mk A40
  clear A40
  have HC5 := Aside0.mk H
  clear H
  go_enter Tryd.func4, Tryd.ntmps4
  go_upto_region 3 with (first | ((with_reducible refine gate_dst (N := 2) rfl ?_); refine box_event ?hg (N := 2) ?hd (cs := #[.int .i64 a0_0, .slice A0_1 l0_1.length c0_1]) (t := 26) ?hr ?_; (case hd => rfl); (case hg => rfl); (case hr => first | (go_simp; done) | (go_simp; rfl)); intro gb384 hg w6 hbox hb; have n0_ := Aside0.mk (below_step (by repeat (first | (with_reducible first | exact HB.out | apply below_alloc | apply pw_below_drewN | apply below_drew1) | exact HB.out)) hb); have n1_ := Aside0.mk (hbox); have n2_ := Aside0.mk ((by rw [hg]; exact (below_size (by repeat (first | (with_reducible first | exact HB.out | apply below_alloc | apply pw_below_drewN | apply below_drew1) | exact HB.out))) : w.heap.size ≤ gb384)); have n3_ := Aside0.mk ((by rw [hg]; exact (below_size (by repeat (first | (with_reducible first | exact HB.out | apply below_alloc | apply pw_below_drewN | apply below_drew1) | exact HB.out))) : w.heap.size ≤ gb384)); clear HB; have HB := n0_; have BK384 := n1_; have GW384 := n2_; have GE384 := n3_; clear n0_ n1_ n2_ n3_; clear hb hbox hg) | ((with_reducible refine gate_callee (f := 14) rfl ?_); refine goesL_ (some 20) rfl rfl Tryd.func14 (by kernel_rfl) rfl #[] rfl (by (try simp only [List.map_toArray, List.map_cons, List.map_nil]); first | done | rfl | (simp only [List.length_drop, List.length_take]; rfl)) ?_; (with_reducible refine (blotterlaw08_awake.calls k  t385 _ ?side1 A3.out).mono ?_); (case side1 => exact Tabs.below HT_.out (by repeat (first | (with_reducible first | exact HB.out | apply below_alloc | apply pw_below_drewN | apply below_drew1 | refine below_set ?_ GE384.out) | exact HB.out))); rintro e w7 ⟨rfl, hb⟩; refine ⟨_, rfl, ?_⟩; have n0_ := Aside0.mk (blk_below (g := gb384) (o := .cells #[.int .i64 a0_0, .slice A0_1 l0_1.length c0_1] 26 (0, 0)) (by (with_reducible repeat (first | refine blk_drewN ?_ _ | refine blk_drew ?_ | refine blk_alloc ?_ _)); exact BK384.out) hb); have n1_ := Aside0.mk (below_step (by repeat (first | (with_reducible first | exact HB.out | apply below_alloc | apply pw_below_drewN | apply below_drew1 | refine below_set ?_ GE384.out) | exact HB.out)) hb); clear BK384; clear HB; have BK384 := n0_; have HB := n1_; clear n0_ n1_; (try clear hb); (try clear hb2); (try clear hk); (try clear hi); have hcz8_0 : w7.cell? ⟨gb384, 0, none⟩ = some (.int .i64 a0_0) := (blk_cell BK384.out 0).trans rfl; have hcz8_1 : w7.cell? ⟨gb384, 1, none⟩ = some (.slice A0_1 l0_1.length c0_1) := (blk_cell BK384.out 1).trans rfl; have hfz8_0 := blk_frozen BK384.out 0; have hfz8_1 := blk_frozen BK384.out 1) | ((with_reducible refine gate_callee (f := 16) rfl ?_); refine goesL_ (some 23) rfl rfl Tryd.func16 (by kernel_rfl) rfl #[.agg #[.int .i64 a0_0, .slice A0_1 l0_1.length c0_1]] rfl (by (try simp only [List.map_toArray, List.map_cons, List.map_nil]); first | done | rfl | (simp only [List.length_drop, List.length_take]; rfl)) ?_; (with_reducible refine (change_To.calls k a0_0 _ _ l0_1 t386 t387 _ ?side1 ?side2 ?side3 A4.out).mono ?_); (case side1 => repeat (first | exact (Kd.C_below HR0_1.out HB.out) | (with_reducible refine Kd.C_alloc ?_ _) | (with_reducible refine Kd.C_drewN ?_ _) | (with_reducible refine Kd.C_drew ?_))); (case side2 => exact HC0_1.out); (case side3 => exact Tabs.below HT_.out (by repeat (first | (with_reducible first | exact HB.out | apply below_alloc | apply pw_below_drewN | apply below_drew1 | refine below_set ?_ GE384.out) | exact HB.out))); rintro e w9 ⟨rfl, hb⟩; refine ⟨_, rfl, ?_⟩; have n0_ := Aside0.mk (blk_below (g := gb384) (o := .cells #[.int .i64 a0_0, .slice A0_1 l0_1.length c0_1] 26 (0, 0)) (by (with_reducible repeat (first | refine blk_drewN ?_ _ | refine blk_drew ?_ | refine blk_alloc ?_ _)); exact BK384.out) hb); have n1_ := Aside0.mk (below_step (by repeat (first | (with_reducible first | exact HB.out | apply below_alloc | apply pw_below_drewN | apply below_drew1 | refine below_set ?_ GE384.out) | exact HB.out)) hb); clear BK384; clear HB; have BK384 := n0_; have HB := n1_; clear n0_ n1_; (try clear hb); (try clear hb2); (try clear hk); (try clear hi)))
  (try simp only [Act.put, List.setIfInBounds_toArray, List.set_cons_zero, List.set_cons_succ])
  go_cut [31] (fun v31 wc => ∃ (kq : Nat) (x31_4 : Bool), v31 = .bool x31_4 ∧ Aside0 (blotterlaw08_AnchorPlain.j0 kq a1 t385 t386 x31_4 a0_0 l0_1 = some r) ∧ Aside0 (kq ≤ k) ∧ Aside0 (wc.heap[gb384]? = some (.cells #[.int .i64 a0_0, (.slice A0_1 l0_1.length c0_1)] 26 (0, 0))) ∧ Aside0 (Below w.heap.size w wc))
  case first =>
    have H := HC5.out
    clear HC5
    by_cases c10 : t385 = true
    · subst c10
      have H1 : (blotterlaw08_AnchorPlain.j0 k a1 true t386 (t387 != 0) a0_0 l0_1) = some r := by rw [if_pos rfl] at H; exact H
      clear H
      have H := H1
      clear H1
      have H' := Aside0.mk H
      clear H
      go_wp2
      go_meet
      case rel => exact ⟨_, ((t387 != 0)), (by first | rfl | (simp; done) | (simp [*]; done)), H', ⟨by first | omega | exact Nat.le_refl _⟩, ⟨by (with_reducible repeat (first | refine blk_drewN ?_ _ | refine blk_drew ?_ | refine blk_alloc ?_ _)); exact BK384.out⟩, ⟨by repeat (first | (with_reducible first | exact HB.out | apply below_alloc | apply pw_below_drewN | apply below_drew1 | refine below_set ?_ GE384.out) | exact HB.out)⟩⟩
    · replace c10 := Bool.eq_false_iff.mpr c10
      subst c10
      have H1 : (blotterlaw08_AnchorPlain.j0 k a1 false t386 true a0_0 l0_1) = some r := by rw [if_neg (show ¬ (false = true) by decide)] at H; exact H
      clear H
      have H := H1
      clear H1
      have H' := Aside0.mk H
      clear H
      go_wp2
      go_meet
      case rel => exact ⟨_, (true), (by first | rfl | (simp; done) | (simp [*]; done)), H', ⟨by first | omega | exact Nat.le_refl _⟩, ⟨by (with_reducible repeat (first | refine blk_drewN ?_ _ | refine blk_drew ?_ | refine blk_alloc ?_ _)); exact BK384.out⟩, ⟨by repeat (first | (with_reducible first | exact HB.out | apply below_alloc | apply pw_below_drewN | apply below_drew1 | refine below_set ?_ GE384.out) | exact HB.out)⟩⟩
  case rest =>
    clear HC5
    try clear c1
    try clear p2
    try clear c4
    try clear c10
    try clear hcz8_0
    try clear hcz8_1
    try clear hfz8_0
    try clear hfz8_1
    obtain ⟨kq, x31_4, rfl, HA, HJ4, BK384, HB⟩ := hcut
    cases kq with
    | zero => exact absurd HA.out (by simp [blotterlaw08_AnchorPlain.j0])
    | succ kj4 =>
      have H := HA.out
      clear HA
      simp only [blotterlaw08_AnchorPlain.j0] at H
      by_cases c11 : x31_4 = true
      · subst c11
        have H1 : (some t385) = some r := by rw [if_pos rfl] at H; exact H
        clear H
        have H := H1
        clear H1
        obtain rfl := Option.some.inj H
        go_wp2
        go_ret
        exact ⟨by first | rfl | (simp [ne_nil_b, eq_nil_b]; done) | (simp [errW_none, errW_some] <;> rfl) | (simp [*, errW_none, errW_some] <;> rfl), by repeat (first | (with_reducible first | exact HB.out | apply below_alloc | apply pw_below_drewN | apply below_drew1 | refine below_set ?_ GE384.out) | exact HB.out)⟩
      · replace c11 := Bool.eq_false_iff.mpr c11
        subst c11
        have H1 : ((anchor_End.f kj4 a0_0 l0_1 0).bind fun bt388 => ((anchor_Start.f kj4 a0_0 l0_1 a0_0).bind fun bt390 => ((change_Nothing.f kj4 a0_0).bind fun bt392 => (if bt388.2 = 0 then (if bt390.2 = 0 then (if bt388.1 = 0 then (blotterlaw08_AnchorPlain.j1 kj4 a1 (bt390.1 != t386) a0_0 l0_1 bt392.1 bt392.2.1) else (blotterlaw08_AnchorPlain.j1 kj4 a1 true a0_0 l0_1 bt392.1 bt392.2.1)) else (blotterlaw08_AnchorPlain.j1 kj4 a1 true a0_0 l0_1 bt392.1 bt392.2.1)) else (blotterlaw08_AnchorPlain.j1 kj4 a1 true a0_0 l0_1 bt392.1 bt392.2.1))))) = some r := by rw [if_neg (show ¬ (false = true) by decide)] at H; exact H
        clear H
        have H := H1
        clear H1
        replace H := Option.bind_eq_some_iff.mp H
        obtain ⟨⟨t388, t389⟩, A120, H⟩ := H
        replace H : ((anchor_Start.f kj4 a0_0 l0_1 a0_0).bind fun bt390 => ((change_Nothing.f kj4 a0_0).bind fun bt392 => (if t389 = 0 then (if bt390.2 = 0 then (if t388 = 0 then (blotterlaw08_AnchorPlain.j1 kj4 a1 (bt390.1 != t386) a0_0 l0_1 bt392.1 bt392.2.1) else (blotterlaw08_AnchorPlain.j1 kj4 a1 true a0_0 l0_1 bt392.1 bt392.2.1)) else (blotterlaw08_AnchorPlain.j1 kj4 a1 true a0_0 l0_1 bt392.1 bt392.2.1)) else (blotterlaw08_AnchorPlain.j1 kj4 a1 true a0_0 l0_1 bt392.1 bt392.2.1)))) = some r := H
        have A12 := Aside0.mk A120
        clear A120
        replace H := Option.bind_eq_some_iff.mp H
        obtain ⟨⟨t390, t391⟩, A130, H⟩ := H
        replace H : ((change_Nothing.f kj4 a0_0).bind fun bt392 => (if t389 = 0 then (if t391 = 0 then (if t388 = 0 then (blotterlaw08_AnchorPlain.j1 kj4 a1 (t390 != t386) a0_0 l0_1 bt392.1 bt392.2.1) else (blotterlaw08_AnchorPlain.j1 kj4 a1 true a0_0 l0_1 bt392.1 bt392.2.1)) else (blotterlaw08_AnchorPlain.j1 kj4 a1 true a0_0 l0_1 bt392.1 bt392.2.1)) else (blotterlaw08_AnchorPlain.j1 kj4 a1 true a0_0 l0_1 bt392.1 bt392.2.1))) = some r := H
        have A13 := Aside0.mk A130
        clear A130
        replace H := Option.bind_eq_some_iff.mp H
        obtain ⟨⟨t392, t393, t396⟩, A140, H⟩ := H
        replace H : (if t389 = 0 then (if t391 = 0 then (if t388 = 0 then (blotterlaw08_AnchorPlain.j1 kj4 a1 (t390 != t386) a0_0 l0_1 t392 t393) else (blotterlaw08_AnchorPlain.j1 kj4 a1 true a0_0 l0_1 t392 t393)) else (blotterlaw08_AnchorPlain.j1 kj4 a1 true a0_0 l0_1 t392 t393)) else (blotterlaw08_AnchorPlain.j1 kj4 a1 true a0_0 l0_1 t392 t393)) = some r := H
        have A14 := Aside0.mk A140
        clear A140
        have HC15 := Aside0.mk H
        clear H
        have hcz16_0 : wc.cell? ⟨gb384, 0, none⟩ = some (.int .i64 a0_0) := (blk_cell BK384.out 0).trans rfl
        have hcz16_1 : wc.cell? ⟨gb384, 1, none⟩ = some (.slice A0_1 l0_1.length c0_1) := (blk_cell BK384.out 1).trans rfl
        have hfz16_0 := blk_frozen BK384.out 0
        have hfz16_1 := blk_frozen BK384.out 1
        go_upto_region 8 with (first | ((with_reducible refine gate_callee (f := 17) rfl ?_); refine goesL_ (some 35) rfl rfl Tryd.func17 (by kernel_rfl) rfl #[.agg #[.int .i64 a0_0, .slice A0_1 l0_1.length c0_1], .int .i64 0] rfl (by (try simp only [List.map_toArray, List.map_cons, List.map_nil]); first | done | rfl | (simp only [List.length_drop, List.length_take]; rfl)) ?_; (with_reducible refine (anchor_End.calls kj4 a0_0 _ _ l0_1 0 t388 t389 _ ?side1 ?side2 ?side3 A12.out).mono ?_); (case side1 => repeat (first | exact (Kd.C_below HR0_1.out HB.out) | (with_reducible refine Kd.C_alloc ?_ _) | (with_reducible refine Kd.C_drewN ?_ _) | (with_reducible refine Kd.C_drew ?_))); (case side2 => exact HC0_1.out); (case side3 => exact Tabs.below HT_.out (by repeat (first | (with_reducible first | exact HB.out | apply below_alloc | apply pw_below_drewN | apply below_drew1 | refine below_set ?_ GE384.out) | exact HB.out))); rintro e w17 ⟨rfl, hb⟩; refine ⟨_, rfl, ?_⟩; have n0_ := Aside0.mk (blk_below (g := gb384) (o := .cells #[.int .i64 a0_0, .slice A0_1 l0_1.length c0_1] 26 (0, 0)) (by (with_reducible repeat (first | refine blk_drewN ?_ _ | refine blk_drew ?_ | refine blk_alloc ?_ _)); exact BK384.out) hb); have n1_ := Aside0.mk (below_step (by repeat (first | (with_reducible first | exact HB.out | apply below_alloc | apply pw_below_drewN | apply below_drew1 | refine below_set ?_ GE384.out) | exact HB.out)) hb); clear BK384; clear HB; have BK384 := n0_; have HB := n1_; clear n0_ n1_; (try clear hb); (try clear hb2); (try clear hk); (try clear hi); have hcz18_0 : w17.cell? ⟨gb384, 0, none⟩ = some (.int .i64 a0_0) := (blk_cell BK384.out 0).trans rfl; have hcz18_1 : w17.cell? ⟨gb384, 1, none⟩ = some (.slice A0_1 l0_1.length c0_1) := (blk_cell BK384.out 1).trans rfl; have hfz18_0 := blk_frozen BK384.out 0; have hfz18_1 := blk_frozen BK384.out 1) | ((with_reducible refine gate_callee (f := 18) rfl ?_); refine goesL_ (some 42) rfl rfl Tryd.func18 (by kernel_rfl) rfl #[.agg #[.int .i64 a0_0, .slice A0_1 l0_1.length c0_1], .int .i64 a0_0] rfl (by (try simp only [List.map_toArray, List.map_cons, List.map_nil]); first | done | rfl | (simp only [List.length_drop, List.length_take]; rfl)) ?_; (with_reducible refine (anchor_Start.calls kj4 a0_0 _ _ l0_1 a0_0 t390 t391 _ ?side1 ?side2 ?side3 A13.out).mono ?_); (case side1 => repeat (first | exact (Kd.C_below HR0_1.out HB.out) | (with_reducible refine Kd.C_alloc ?_ _) | (with_reducible refine Kd.C_drewN ?_ _) | (with_reducible refine Kd.C_drew ?_))); (case side2 => exact HC0_1.out); (case side3 => exact Tabs.below HT_.out (by repeat (first | (with_reducible first | exact HB.out | apply below_alloc | apply pw_below_drewN | apply below_drew1 | refine below_set ?_ GE384.out) | exact HB.out))); rintro e w19 ⟨rfl, hb⟩; refine ⟨_, rfl, ?_⟩; have n0_ := Aside0.mk (blk_below (g := gb384) (o := .cells #[.int .i64 a0_0, .slice A0_1 l0_1.length c0_1] 26 (0, 0)) (by (with_reducible repeat (first | refine blk_drewN ?_ _ | refine blk_drew ?_ | refine blk_alloc ?_ _)); exact BK384.out) hb); have n1_ := Aside0.mk (below_step (by repeat (first | (with_reducible first | exact HB.out | apply below_alloc | apply pw_below_drewN | apply below_drew1 | refine below_set ?_ GE384.out) | exact HB.out)) hb); clear BK384; clear HB; have BK384 := n0_; have HB := n1_; clear n0_ n1_; (try clear hb); (try clear hb2); (try clear hk); (try clear hi); have hcz20_0 : w19.cell? ⟨gb384, 0, none⟩ = some (.int .i64 a0_0) := (blk_cell BK384.out 0).trans rfl; have hcz20_1 : w19.cell? ⟨gb384, 1, none⟩ = some (.slice A0_1 l0_1.length c0_1) := (blk_cell BK384.out 1).trans rfl; have hfz20_0 := blk_frozen BK384.out 0; have hfz20_1 := blk_frozen BK384.out 1) | ((with_reducible refine gate_callee (f := 19) rfl ?_); refine goesL_ (some 48) rfl rfl Tryd.func19 (by kernel_rfl) rfl #[.int .i64 a0_0] rfl (by (try simp only [List.map_toArray, List.map_cons, List.map_nil]); first | done | rfl | (simp only [List.length_drop, List.length_take]; rfl)) ?_; (with_reducible refine (change_Nothing.calls kj4 a0_0 t392 t393 t396 _ A14.out).mono ?_); rintro e w21 ⟨v394, rfl, ho0, hb⟩; refine ⟨_, rfl, ?_⟩; have n0_ := Aside0.mk (Kd.S_lower ho0 (below_size (by repeat (first | (with_reducible first | exact HB.out | apply below_alloc | apply pw_below_drewN | apply below_drew1 | refine below_set ?_ GE384.out) | exact HB.out)))); have n1_ := Aside0.mk (blk_below (g := gb384) (o := .cells #[.int .i64 a0_0, .slice A0_1 l0_1.length c0_1] 26 (0, 0)) (by (with_reducible repeat (first | refine blk_drewN ?_ _ | refine blk_drew ?_ | refine blk_alloc ?_ _)); exact BK384.out) hb); have n2_ := Aside0.mk (below_step (by repeat (first | (with_reducible first | exact HB.out | apply below_alloc | apply pw_below_drewN | apply below_drew1 | refine below_set ?_ GE384.out) | exact HB.out)) hb); clear BK384; clear HB; have HO395 := n0_; have BK384 := n1_; have HB := n2_; clear n0_ n1_ n2_; (try clear hb); (try clear hb2); (try clear hk); (try clear hi); (try clear ho0)) | ((with_reducible refine gate_dst (N := 12) rfl ?_); refine box_event ?hg (N := 12) ?hd (cs := #[.int .i64 0, .slice none 0 0]) (t := 26) ?hr ?_; (case hd => rfl); (case hg => rfl); (case hr => first | (go_simp; done) | (go_simp; rfl)); intro gb397 hg w22 hbox hb; have n0_ := Aside0.mk (Kd.S_below (by (with_reducible repeat (first | apply Kd.S_alloc | apply Kd.S_drewN | apply Kd.S_drew)); exact HO395.out) hb); have n1_ := Aside0.mk (blk_below (g := gb384) (o := .cells #[.int .i64 a0_0, .slice A0_1 l0_1.length c0_1] 26 (0, 0)) (by (with_reducible repeat (first | refine blk_drewN ?_ _ | refine blk_drew ?_ | refine blk_alloc ?_ _)); exact BK384.out) hb); have n2_ := Aside0.mk (below_step (by repeat (first | (with_reducible first | exact HB.out | apply below_alloc | apply pw_below_drewN | apply below_drew1 | refine below_set ?_ GE384.out) | exact HB.out)) hb); have n3_ := Aside0.mk (hbox); have n4_ := Aside0.mk ((by rw [hg]; exact (below_size (by repeat (first | (with_reducible first | exact HB.out | apply below_alloc | apply pw_below_drewN | apply below_drew1 | refine below_set ?_ GE384.out) | exact HB.out))) : w.heap.size ≤ gb397)); have n5_ := Aside0.mk ((by rw [hg]; exact (below_size (by repeat (first | (with_reducible first | exact HB.out | apply below_alloc | apply pw_below_drewN | apply below_drew1 | refine below_set ?_ GE384.out) | exact HB.out))) : w.heap.size ≤ gb397)); have n6_ := Aside0.mk ((by rw [hg]; exact Nat.ne_of_lt (blk_lt (g := gb384) (o := .cells #[.int .i64 a0_0, .slice A0_1 l0_1.length c0_1] 26 (0, 0)) (by (with_reducible repeat (first | refine blk_drewN ?_ _ | refine blk_drew ?_ | refine blk_alloc ?_ _)); exact BK384.out)) : gb384 ≠ gb397)); have n7_ := Aside0.mk ((by rw [hg]; exact Nat.ne_of_gt (blk_lt (g := gb384) (o := .cells #[.int .i64 a0_0, .slice A0_1 l0_1.length c0_1] 26 (0, 0)) (by (with_reducible repeat (first | refine blk_drewN ?_ _ | refine blk_drew ?_ | refine blk_alloc ?_ _)); exact BK384.out)) : gb397 ≠ gb384)); clear HO395; clear BK384; clear HB; have HO395 := n0_; have BK384 := n1_; have HB := n2_; have BK397 := n3_; have GW397 := n4_; have GE397 := n5_; have NB384_397 := n6_; have NB397_384 := n7_; clear n0_ n1_ n2_ n3_ n4_ n5_ n6_ n7_; clear hb hbox hg; have hnb23 := NB397_384.out; have hnc23 := NB384_397.out; have hcz24_0 : w22.cell? ⟨gb397, 0, none⟩ = some (.int .i64 0) := (blk_cell BK397.out 0).trans rfl; have hcz24_1 : w22.cell? ⟨gb397, 1, none⟩ = some (.slice none 0 0) := (blk_cell BK397.out 1).trans rfl; have hfz24_0 := blk_frozen BK397.out 0; have hfz24_1 := blk_frozen BK397.out 1; obtain ⟨Ao25, co25, eo25⟩ := Kd.S_slice HO395.out; subst eo25))
        (try simp only [Act.put, List.setIfInBounds_toArray, List.set_cons_zero, List.set_cons_succ])
        go_cut [65] (fun v65 wc => ∃ (kq : Nat) (x65_14 : Bool), v65 = .bool x65_14 ∧ Aside0 (blotterlaw08_AnchorPlain.j1 kq a1 x65_14 a0_0 l0_1 t392 t393 = some r) ∧ Aside0 (kq ≤ kj4) ∧ Aside0 (Kd.S k43 43 wc w.heap.size (fun _ => True) (.slice Ao25 t393.length co25) t393) ∧ Aside0 (wc.heap[gb384]? = some (.cells #[.int .i64 a0_0, (.slice A0_1 l0_1.length c0_1)] 26 (0, 0))) ∧ Aside0 (wc.heap[gb397]? = some (.cells #[.int .i64 t392, (.slice Ao25 t393.length co25)] 26 (0, 0))) ∧ Aside0 (Below w.heap.size w wc))
        case first =>
          have H := HC15.out
          clear HC15
          by_cases c26 : t389 = 0
          · rw [if_pos c26] at H
            have c26b0 : (t389 == 0) = true := beq_iff_eq.mpr c26
            have c26b1 : (t389 != 0) = false := bne_eq_false_iff_eq.mpr c26
            clear c26
            (first | rw [c26b0] | (simp only [i64_w, i32_w]; rw [c26b0]) | skip)
            by_cases c27 : t391 = 0
            · rw [if_pos c27] at H
              have c27b0 : (t391 == 0) = true := beq_iff_eq.mpr c27
              have c27b1 : (t391 != 0) = false := bne_eq_false_iff_eq.mpr c27
              clear c27
              by_cases c28 : t388 = 0
              · rw [if_pos c28] at H
                have c28b0 : (t388 == 0) = true := beq_iff_eq.mpr c28
                have c28b1 : (t388 != 0) = false := bne_eq_false_iff_eq.mpr c28
                clear c28
                have H' := Aside0.mk H
                clear H
                go_wp2
                go_meet
                case rel => exact ⟨_, ((t390 != t386)), (by first | rfl | (simp; done) | (simp [*]; done)), H', ⟨by have := HJ4.out; first | omega | exact Nat.le_refl _⟩, ⟨by (with_reducible repeat (first | apply Kd.S_alloc | apply Kd.S_drewN | apply Kd.S_drew)); exact Kd.S_mono (Kd.S_far (p := ⟨gb397, 1, none⟩) (Kd.S_far (p := ⟨gb397, 0, none⟩) (Kd.S_types HO395.out BK397.out (by decide)) (fun _ hk => hk.2) (.int .i64 t392)) (fun _ hk => hk.2) (.slice Ao25 t393.length co25)) (fun _ hk => trivial)⟩, ⟨by (with_reducible repeat (first | refine blk_drewN ?_ _ | refine blk_drew ?_ | refine blk_alloc ?_ _)); refine blk_far ?_ NB384_397.out _; (with_reducible repeat (first | refine blk_drewN ?_ _ | refine blk_drew ?_ | refine blk_alloc ?_ _)); refine blk_far ?_ NB384_397.out _; (with_reducible repeat (first | refine blk_drewN ?_ _ | refine blk_drew ?_ | refine blk_alloc ?_ _)); exact BK384.out⟩, ⟨by (with_reducible repeat (first | refine blk_drewN ?_ _ | refine blk_drew ?_ | refine blk_alloc ?_ _)); refine blk_put (cs := #[.int .i64 t392, .slice none 0 0]) ?_ 1 _ rfl; (with_reducible repeat (first | refine blk_drewN ?_ _ | refine blk_drew ?_ | refine blk_alloc ?_ _)); refine blk_put (cs := #[.int .i64 0, .slice none 0 0]) ?_ 0 _ rfl; (with_reducible repeat (first | refine blk_drewN ?_ _ | refine blk_drew ?_ | refine blk_alloc ?_ _)); exact BK397.out⟩, ⟨by repeat (first | (with_reducible first | exact HB.out | apply below_alloc | apply pw_below_drewN | apply below_drew1 | refine below_set ?_ GE384.out | refine below_set ?_ GE397.out) | exact HB.out)⟩⟩
              · rw [if_neg c28] at H
                have c28b0 : (t388 == 0) = false := beq_eq_false_iff_ne.mpr c28
                have c28b1 : (t388 != 0) = true := bne_iff_ne.mpr c28
                have H' := Aside0.mk H
                clear H
                go_wp2
                go_meet
                case rel => exact ⟨_, (true), (by first | rfl | (simp; done) | (simp [*]; done)), H', ⟨by have := HJ4.out; first | omega | exact Nat.le_refl _⟩, ⟨by (with_reducible repeat (first | apply Kd.S_alloc | apply Kd.S_drewN | apply Kd.S_drew)); exact Kd.S_mono (Kd.S_far (p := ⟨gb397, 1, none⟩) (Kd.S_far (p := ⟨gb397, 0, none⟩) (Kd.S_types HO395.out BK397.out (by decide)) (fun _ hk => hk.2) (.int .i64 t392)) (fun _ hk => hk.2) (.slice Ao25 t393.length co25)) (fun _ hk => trivial)⟩, ⟨by (with_reducible repeat (first | refine blk_drewN ?_ _ | refine blk_drew ?_ | refine blk_alloc ?_ _)); refine blk_far ?_ NB384_397.out _; (with_reducible repeat (first | refine blk_drewN ?_ _ | refine blk_drew ?_ | refine blk_alloc ?_ _)); refine blk_far ?_ NB384_397.out _; (with_reducible repeat (first | refine blk_drewN ?_ _ | refine blk_drew ?_ | refine blk_alloc ?_ _)); exact BK384.out⟩, ⟨by (with_reducible repeat (first | refine blk_drewN ?_ _ | refine blk_drew ?_ | refine blk_alloc ?_ _)); refine blk_put (cs := #[.int .i64 t392, .slice none 0 0]) ?_ 1 _ rfl; (with_reducible repeat (first | refine blk_drewN ?_ _ | refine blk_drew ?_ | refine blk_alloc ?_ _)); refine blk_put (cs := #[.int .i64 0, .slice none 0 0]) ?_ 0 _ rfl; (with_reducible repeat (first | refine blk_drewN ?_ _ | refine blk_drew ?_ | refine blk_alloc ?_ _)); exact BK397.out⟩, ⟨by repeat (first | (with_reducible first | exact HB.out | apply below_alloc | apply pw_below_drewN | apply below_drew1 | refine below_set ?_ GE384.out | refine below_set ?_ GE397.out) | exact HB.out)⟩⟩
            · rw [if_neg c27] at H
              have c27b0 : (t391 == 0) = false := beq_eq_false_iff_ne.mpr c27
              have c27b1 : (t391 != 0) = true := bne_iff_ne.mpr c27
              have H' := Aside0.mk H
              clear H
              go_wp2
              go_meet
              case rel => exact ⟨_, (true), (by first | rfl | (simp; done) | (simp [*]; done)), H', ⟨by have := HJ4.out; first | omega | exact Nat.le_refl _⟩, ⟨by (with_reducible repeat (first | apply Kd.S_alloc | apply Kd.S_drewN | apply Kd.S_drew)); exact Kd.S_mono (Kd.S_far (p := ⟨gb397, 1, none⟩) (Kd.S_far (p := ⟨gb397, 0, none⟩) (Kd.S_types HO395.out BK397.out (by decide)) (fun _ hk => hk.2) (.int .i64 t392)) (fun _ hk => hk.2) (.slice Ao25 t393.length co25)) (fun _ hk => trivial)⟩, ⟨by (with_reducible repeat (first | refine blk_drewN ?_ _ | refine blk_drew ?_ | refine blk_alloc ?_ _)); refine blk_far ?_ NB384_397.out _; (with_reducible repeat (first | refine blk_drewN ?_ _ | refine blk_drew ?_ | refine blk_alloc ?_ _)); refine blk_far ?_ NB384_397.out _; (with_reducible repeat (first | refine blk_drewN ?_ _ | refine blk_drew ?_ | refine blk_alloc ?_ _)); exact BK384.out⟩, ⟨by (with_reducible repeat (first | refine blk_drewN ?_ _ | refine blk_drew ?_ | refine blk_alloc ?_ _)); refine blk_put (cs := #[.int .i64 t392, .slice none 0 0]) ?_ 1 _ rfl; (with_reducible repeat (first | refine blk_drewN ?_ _ | refine blk_drew ?_ | refine blk_alloc ?_ _)); refine blk_put (cs := #[.int .i64 0, .slice none 0 0]) ?_ 0 _ rfl; (with_reducible repeat (first | refine blk_drewN ?_ _ | refine blk_drew ?_ | refine blk_alloc ?_ _)); exact BK397.out⟩, ⟨by repeat (first | (with_reducible first | exact HB.out | apply below_alloc | apply pw_below_drewN | apply below_drew1 | refine below_set ?_ GE384.out | refine below_set ?_ GE397.out) | exact HB.out)⟩⟩
          · rw [if_neg c26] at H
            have c26b0 : (t389 == 0) = false := beq_eq_false_iff_ne.mpr c26
            have c26b1 : (t389 != 0) = true := bne_iff_ne.mpr c26
            (first | rw [c26b0] | (simp only [i64_w, i32_w]; rw [c26b0]) | skip)
            have H' := Aside0.mk H
            clear H
            go_wp2
            go_meet
            case rel => exact ⟨_, (true), (by first | rfl | (simp; done) | (simp [*]; done)), H', ⟨by have := HJ4.out; first | omega | exact Nat.le_refl _⟩, ⟨by (with_reducible repeat (first | apply Kd.S_alloc | apply Kd.S_drewN | apply Kd.S_drew)); exact Kd.S_mono (Kd.S_far (p := ⟨gb397, 1, none⟩) (Kd.S_far (p := ⟨gb397, 0, none⟩) (Kd.S_types HO395.out BK397.out (by decide)) (fun _ hk => hk.2) (.int .i64 t392)) (fun _ hk => hk.2) (.slice Ao25 t393.length co25)) (fun _ hk => trivial)⟩, ⟨by (with_reducible repeat (first | refine blk_drewN ?_ _ | refine blk_drew ?_ | refine blk_alloc ?_ _)); refine blk_far ?_ NB384_397.out _; (with_reducible repeat (first | refine blk_drewN ?_ _ | refine blk_drew ?_ | refine blk_alloc ?_ _)); refine blk_far ?_ NB384_397.out _; (with_reducible repeat (first | refine blk_drewN ?_ _ | refine blk_drew ?_ | refine blk_alloc ?_ _)); exact BK384.out⟩, ⟨by (with_reducible repeat (first | refine blk_drewN ?_ _ | refine blk_drew ?_ | refine blk_alloc ?_ _)); refine blk_put (cs := #[.int .i64 t392, .slice none 0 0]) ?_ 1 _ rfl; (with_reducible repeat (first | refine blk_drewN ?_ _ | refine blk_drew ?_ | refine blk_alloc ?_ _)); refine blk_put (cs := #[.int .i64 0, .slice none 0 0]) ?_ 0 _ rfl; (with_reducible repeat (first | refine blk_drewN ?_ _ | refine blk_drew ?_ | refine blk_alloc ?_ _)); exact BK397.out⟩, ⟨by repeat (first | (with_reducible first | exact HB.out | apply below_alloc | apply pw_below_drewN | apply below_drew1 | refine below_set ?_ GE384.out | refine below_set ?_ GE397.out) | exact HB.out)⟩⟩
        case rest =>
          clear HC15
          try clear c1
          try clear c2
          try clear p2
          try clear c4
          try clear c10
          try clear c11
          try clear c14
          try clear c16
          try clear c17
          try clear c18
          try clear c19
          try clear c23
          try clear c26
          try clear c26b0
          try clear c26b1
          try clear c27
          try clear c27b0
          try clear c27b1
          try clear c28
          try clear c28b0
          try clear c28b1
          try clear hcz16_0
          try clear hcz16_1
          try clear hcz18_0
          try clear hcz18_1
          try clear hcz20_0
          try clear hcz20_1
          try clear hcz24_0
          try clear hcz24_1
          try clear hcz8_0
          try clear hcz8_1
          try clear hfz16_0
          try clear hfz16_1
          try clear hfz18_0
          try clear hfz18_1
          try clear hfz20_0
          try clear hfz20_1
          try clear hfz24_0
          try clear hfz24_1
          try clear hfz8_0
          try clear hfz8_1
          try clear p2
          obtain ⟨kq, x65_14, rfl, HA, HJ14, HO_398001, BK384, BK397, HB⟩ := hcut
          cases kq with
          | zero => exact absurd HA.out (by simp [blotterlaw08_AnchorPlain.j1])
          | succ kj14 =>
            have H := HA.out
            clear HA
            simp only [blotterlaw08_AnchorPlain.j1] at H
            by_cases c29 : x65_14 = true
            · subst c29
              have H1 : (none) = some r := by rw [if_pos rfl] at H; exact H
              clear H
              have H := H1
              clear H1
              exact absurd H (by simp)
            · replace c29 := Bool.eq_false_iff.mpr c29
              subst c29
              have H1 : (if a1 < 0 then (blotterlaw08_AnchorPlain.j2 kj14 a1 true t392 t393) else (blotterlaw08_AnchorPlain.j2 kj14 a1 (decide (a1 > a0_0)) t392 t393)) = some r := by rw [if_neg (show ¬ (false = true) by decide)] at H; exact H
              clear H
              have H := H1
              clear H1
              have HC30 := Aside0.mk H
              clear H
              go_upto_region 10 with (fail)
              go_cut [73] (fun v73 wc => ∃ (kq : Nat) (x73_29 : Bool), v73 = .bool x73_29 ∧ Aside0 (blotterlaw08_AnchorPlain.j2 kq a1 x73_29 t392 t393 = some r) ∧ Aside0 (kq ≤ kj14) ∧ Aside0 (Kd.S k43 43 wc w.heap.size (fun _ => True) (.slice Ao25 t393.length co25) t393) ∧ Aside0 (wc.heap[gb384]? = some (.cells #[.int .i64 a0_0, (.slice A0_1 l0_1.length c0_1)] 26 (0, 0))) ∧ Aside0 (wc.heap[gb397]? = some (.cells #[.int .i64 t392, (.slice Ao25 t393.length co25)] 26 (0, 0))) ∧ Aside0 (Below w.heap.size w wc))
              case first =>
                have H := HC30.out
                clear HC30
                by_cases c31 : a1 < 0
                · rw [if_pos c31] at H
                  have c31b0 : decide (a1 < 0) = true := decide_eq_true c31
                  clear c31
                  (first | rw [c31b0] | (simp only [i64_w, i32_w]; rw [c31b0]) | skip)
                  have H' := Aside0.mk H
                  clear H
                  go_wp2
                  go_meet
                  case rel => exact ⟨_, (true), (by first | rfl | (simp; done) | (simp [*]; done)), H', ⟨by have := HJ4.out; have := HJ14.out; first | omega | exact Nat.le_refl _⟩, ⟨by (with_reducible repeat (first | apply Kd.S_alloc | apply Kd.S_drewN | apply Kd.S_drew)); exact HO_398001.out⟩, ⟨by (with_reducible repeat (first | refine blk_drewN ?_ _ | refine blk_drew ?_ | refine blk_alloc ?_ _)); exact BK384.out⟩, ⟨by (with_reducible repeat (first | refine blk_drewN ?_ _ | refine blk_drew ?_ | refine blk_alloc ?_ _)); exact BK397.out⟩, ⟨by repeat (first | (with_reducible first | exact HB.out | apply below_alloc | apply pw_below_drewN | apply below_drew1 | refine below_set ?_ GE384.out | refine below_set ?_ GE397.out) | exact HB.out)⟩⟩
                · rw [if_neg c31] at H
                  have c31b0 : decide (a1 < 0) = false := decide_eq_false c31
                  clear c31
                  (first | rw [c31b0] | (simp only [i64_w, i32_w]; rw [c31b0]) | skip)
                  have H' := Aside0.mk H
                  clear H
                  have hnb32 := NB384_397.out
                  have hnc32 := NB397_384.out
                  have hcz33_0 : wc.cell? ⟨gb384, 0, none⟩ = some (.int .i64 a0_0) := (blk_cell BK384.out 0).trans rfl
                  have hcz33_1 : wc.cell? ⟨gb384, 1, none⟩ = some (.slice A0_1 l0_1.length c0_1) := (blk_cell BK384.out 1).trans rfl
                  have hfz33_0 := blk_frozen BK384.out 0
                  have hfz33_1 := blk_frozen BK384.out 1
                  go_wp2
                  go_meet
                  case rel => exact ⟨_, (decide (a1 > a0_0)), (by first | rfl | (simp; done) | (simp [*]; done)), H', ⟨by have := HJ4.out; have := HJ14.out; first | omega | exact Nat.le_refl _⟩, ⟨by (with_reducible repeat (first | apply Kd.S_alloc | apply Kd.S_drewN | apply Kd.S_drew)); exact HO_398001.out⟩, ⟨by (with_reducible repeat (first | refine blk_drewN ?_ _ | refine blk_drew ?_ | refine blk_alloc ?_ _)); exact BK384.out⟩, ⟨by (with_reducible repeat (first | refine blk_drewN ?_ _ | refine blk_drew ?_ | refine blk_alloc ?_ _)); exact BK397.out⟩, ⟨by repeat (first | (with_reducible first | exact HB.out | apply below_alloc | apply pw_below_drewN | apply below_drew1 | refine below_set ?_ GE384.out | refine below_set ?_ GE397.out) | exact HB.out)⟩⟩
              case rest =>
                clear HC30
                try clear c1
                try clear c2
                try clear p2
                try clear c3
                try clear c4
                try clear c10
                try clear c11
                try clear c14
                try clear c16
                try clear c17
                try clear c18
                try clear c19
                try clear c23
                try clear c26
                try clear c26b0
                try clear c26b1
                try clear c27
                try clear c27b0
                try clear c27b1
                try clear c28
                try clear c28b0
                try clear c28b1
                try clear c29
                try clear c31
                try clear c31b0
                try clear c32
                try clear hcz16_0
                try clear hcz16_1
                try clear hcz18_0
                try clear hcz18_1
                try clear hcz20_0
                try clear hcz20_1
                try clear hcz24_0
                try clear hcz24_1
                try clear hcz33_0
                try clear hcz33_1
                try clear hcz8_0
                try clear hcz8_1
                try clear hfz16_0
                try clear hfz16_1
                try clear hfz18_0
                try clear hfz18_1
                try clear hfz20_0
                try clear hfz20_1
                try clear hfz24_0
                try clear hfz24_1
                try clear hfz33_0
                try clear hfz33_1
                try clear hfz8_0
                try clear hfz8_1
                try clear p2
                obtain ⟨kq, x73_29, rfl, HA, HJ29, HO_398001, BK384, BK397, HB⟩ := hcut
                cases kq with
                | zero => exact absurd HA.out (by simp [blotterlaw08_AnchorPlain.j2])
                | succ kj29 =>
                  have H := HA.out
                  clear HA
                  simp only [blotterlaw08_AnchorPlain.j2] at H
                  by_cases c34 : x73_29 = true
                  · subst c34
                    have H1 : ((anchor_Start.f kj29 t392 t393 a1).bind fun bt398 => (some (bt398.2 == 1))) = some r := by rw [if_pos rfl] at H; exact H
                    clear H
                    have H := H1
                    clear H1
                    replace H := Option.bind_eq_some_iff.mp H
                    obtain ⟨⟨t398, t399⟩, A350, H⟩ := H
                    replace H : (some (t399 == 1)) = some r := H
                    have A35 := Aside0.mk A350
                    clear A350
                    obtain rfl := Option.some.inj H
                    have hnb36 := NB397_384.out
                    have hnc36 := NB384_397.out
                    have hcz37_0 : wc.cell? ⟨gb397, 0, none⟩ = some (.int .i64 t392) := (blk_cell BK397.out 0).trans rfl
                    have hcz37_1 : wc.cell? ⟨gb397, 1, none⟩ = some (.slice Ao25 t393.length co25) := (blk_cell BK397.out 1).trans rfl
                    have hfz37_0 := blk_frozen BK397.out 0
                    have hfz37_1 := blk_frozen BK397.out 1
                    go_wp2_with (first | ((with_reducible refine gate_callee (f := 18) rfl ?_); refine goesL_ (some 77) rfl rfl Tryd.func18 (by kernel_rfl) rfl #[.agg #[.int .i64 t392, .slice Ao25 t393.length co25], .int .i64 a1] rfl (by (try simp only [List.map_toArray, List.map_cons, List.map_nil]); first | done | rfl | (simp only [List.length_drop, List.length_take]; rfl)) ?_; (with_reducible refine (anchor_Start.calls kj29 t392 _ _ t393 a1 t398 t399 _ ?side1 ?side2 ?side3 A35.out).mono ?_); (case side1 => repeat (first | exact (Kd.S_reads' HO_398001.out).2.2 | (with_reducible refine Kd.C_alloc ?_ _) | (with_reducible refine Kd.C_drewN ?_ _) | (with_reducible refine Kd.C_drew ?_))); (case side2 => exact (Kd.S_reads' HO_398001.out).2.1); (case side3 => exact Tabs.below HT_.out (by repeat (first | (with_reducible first | exact HB.out | apply below_alloc | apply pw_below_drewN | apply below_drew1 | refine below_set ?_ GE384.out | refine below_set ?_ GE397.out) | exact HB.out))); rintro e w38 ⟨rfl, hb⟩; refine ⟨_, rfl, ?_⟩; have n0_ := Aside0.mk (Kd.S_below (by (with_reducible repeat (first | apply Kd.S_alloc | apply Kd.S_drewN | apply Kd.S_drew)); exact HO_398001.out) hb); have n1_ := Aside0.mk (blk_below (g := gb384) (o := .cells #[.int .i64 a0_0, .slice A0_1 l0_1.length c0_1] 26 (0, 0)) (by (with_reducible repeat (first | refine blk_drewN ?_ _ | refine blk_drew ?_ | refine blk_alloc ?_ _)); exact BK384.out) hb); have n2_ := Aside0.mk (blk_below (g := gb397) (o := .cells #[.int .i64 t392, .slice Ao25 t393.length co25] 26 (0, 0)) (by (with_reducible repeat (first | refine blk_drewN ?_ _ | refine blk_drew ?_ | refine blk_alloc ?_ _)); exact BK397.out) hb); have n3_ := Aside0.mk (below_step (by repeat (first | (with_reducible first | exact HB.out | apply below_alloc | apply pw_below_drewN | apply below_drew1 | refine below_set ?_ GE384.out | refine below_set ?_ GE397.out) | exact HB.out)) hb); clear HO_398001; clear BK384; clear BK397; clear HB; have HO_398001 := n0_; have BK384 := n1_; have BK397 := n2_; have HB := n3_; clear n0_ n1_ n2_ n3_; (try clear hb); (try clear hb2); (try clear hk); (try clear hi)))
                    go_ret
                    exact ⟨by first | rfl | (simp [ne_nil_b, eq_nil_b]; done) | (simp [errW_none, errW_some] <;> rfl) | (simp [*, errW_none, errW_some] <;> rfl), by repeat (first | (with_reducible first | exact HB.out | apply below_alloc | apply pw_below_drewN | apply below_drew1 | refine below_set ?_ GE384.out | refine below_set ?_ GE397.out) | exact HB.out)⟩
                  · replace c34 := Bool.eq_false_iff.mpr c34
                    subst c34
                    have H1 : ((anchor_Start.f kj29 t392 t393 a1).bind fun bt400 => ((anchor_End.f kj29 t392 t393 a1).bind fun bt402 => (if bt400.2 = 0 then (if bt402.2 = 0 then (if bt400.1 = a1 then (some (bt402.1 == a1)) else (none)) else (none)) else (none)))) = some r := by rw [if_neg (show ¬ (false = true) by decide)] at H; exact H
                    clear H
                    have H := H1
                    clear H1
                    replace H := Option.bind_eq_some_iff.mp H
                    obtain ⟨⟨t400, t401⟩, A390, H⟩ := H
                    replace H : ((anchor_End.f kj29 t392 t393 a1).bind fun bt402 => (if t401 = 0 then (if bt402.2 = 0 then (if t400 = a1 then (some (bt402.1 == a1)) else (none)) else (none)) else (none))) = some r := H
                    have A39 := Aside0.mk A390
                    clear A390
                    replace H := Option.bind_eq_some_iff.mp H
                    obtain ⟨⟨t402, t403⟩, A400, H⟩ := H
                    replace H : (if t401 = 0 then (if t403 = 0 then (if t400 = a1 then (some (t402 == a1)) else (none)) else (none)) else (none)) = some r := H
                    have A40 := Aside0.mk A400
                    clear A400
                    by_cases c41 : t401 = 0
                    · rw [if_pos c41] at H
                      have c41b0 : (t401 == 0) = true := beq_iff_eq.mpr c41
                      have c41b1 : (t401 != 0) = false := bne_eq_false_iff_eq.mpr c41
                      clear c41
                      by_cases c42 : t403 = 0
                      · rw [if_pos c42] at H
                        have c42b0 : (t403 == 0) = true := beq_iff_eq.mpr c42
                        have c42b1 : (t403 != 0) = false := bne_eq_false_iff_eq.mpr c42
                        clear c42
                        by_cases c43 : t400 = a1
                        · rw [if_pos c43] at H
                          have c43b0 : (t400 == a1) = true := beq_iff_eq.mpr c43
                          have c43b1 : (t400 != a1) = false := bne_eq_false_iff_eq.mpr c43
                          clear c43
                          obtain rfl := Option.some.inj H
                          have hnb44 := NB397_384.out
                          have hnc44 := NB384_397.out
                          have hcz45_0 : wc.cell? ⟨gb397, 0, none⟩ = some (.int .i64 t392) := (blk_cell BK397.out 0).trans rfl
                          have hcz45_1 : wc.cell? ⟨gb397, 1, none⟩ = some (.slice Ao25 t393.length co25) := (blk_cell BK397.out 1).trans rfl
                          have hfz45_0 := blk_frozen BK397.out 0
                          have hfz45_1 := blk_frozen BK397.out 1
                          go_wp2_with (first | ((with_reducible refine gate_callee (f := 18) rfl ?_); refine goesL_ (some 85) rfl rfl Tryd.func18 (by kernel_rfl) rfl #[.agg #[.int .i64 t392, .slice Ao25 t393.length co25], .int .i64 a1] rfl (by (try simp only [List.map_toArray, List.map_cons, List.map_nil]); first | done | rfl | (simp only [List.length_drop, List.length_take]; rfl)) ?_; (with_reducible refine (anchor_Start.calls kj29 t392 _ _ t393 a1 t400 t401 _ ?side1 ?side2 ?side3 A39.out).mono ?_); (case side1 => repeat (first | exact (Kd.S_reads' HO_398001.out).2.2 | (with_reducible refine Kd.C_alloc ?_ _) | (with_reducible refine Kd.C_drewN ?_ _) | (with_reducible refine Kd.C_drew ?_))); (case side2 => exact (Kd.S_reads' HO_398001.out).2.1); (case side3 => exact Tabs.below HT_.out (by repeat (first | (with_reducible first | exact HB.out | apply below_alloc | apply pw_below_drewN | apply below_drew1 | refine below_set ?_ GE384.out | refine below_set ?_ GE397.out) | exact HB.out))); rintro e w46 ⟨rfl, hb⟩; refine ⟨_, rfl, ?_⟩; have n0_ := Aside0.mk (Kd.S_below (by (with_reducible repeat (first | apply Kd.S_alloc | apply Kd.S_drewN | apply Kd.S_drew)); exact HO_398001.out) hb); have n1_ := Aside0.mk (blk_below (g := gb384) (o := .cells #[.int .i64 a0_0, .slice A0_1 l0_1.length c0_1] 26 (0, 0)) (by (with_reducible repeat (first | refine blk_drewN ?_ _ | refine blk_drew ?_ | refine blk_alloc ?_ _)); exact BK384.out) hb); have n2_ := Aside0.mk (blk_below (g := gb397) (o := .cells #[.int .i64 t392, .slice Ao25 t393.length co25] 26 (0, 0)) (by (with_reducible repeat (first | refine blk_drewN ?_ _ | refine blk_drew ?_ | refine blk_alloc ?_ _)); exact BK397.out) hb); have n3_ := Aside0.mk (below_step (by repeat (first | (with_reducible first | exact HB.out | apply below_alloc | apply pw_below_drewN | apply below_drew1 | refine below_set ?_ GE384.out | refine below_set ?_ GE397.out) | exact HB.out)) hb); clear HO_398001; clear BK384; clear BK397; clear HB; have HO_398001 := n0_; have BK384 := n1_; have BK397 := n2_; have HB := n3_; clear n0_ n1_ n2_ n3_; (try clear hb); (try clear hb2); (try clear hk); (try clear hi); have hcz47_0 : w46.cell? ⟨gb397, 0, none⟩ = some (.int .i64 t392) := (blk_cell BK397.out 0).trans rfl; have hcz47_1 : w46.cell? ⟨gb397, 1, none⟩ = some (.slice Ao25 t393.length co25) := (blk_cell BK397.out 1).trans rfl; have hfz47_0 := blk_frozen BK397.out 0; have hfz47_1 := blk_frozen BK397.out 1) | ((with_reducible refine gate_callee (f := 17) rfl ?_); refine goesL_ (some 91) rfl rfl Tryd.func17 (by kernel_rfl) rfl #[.agg #[.int .i64 t392, .slice Ao25 t393.length co25], .int .i64 a1] rfl (by (try simp only [List.map_toArray, List.map_cons, List.map_nil]); first | done | rfl | (simp only [List.length_drop, List.length_take]; rfl)) ?_; (with_reducible refine (anchor_End.calls kj29 t392 _ _ t393 a1 t402 t403 _ ?side1 ?side2 ?side3 A40.out).mono ?_); (case side1 => repeat (first | exact (Kd.S_reads' HO_398001.out).2.2 | (with_reducible refine Kd.C_alloc ?_ _) | (with_reducible refine Kd.C_drewN ?_ _) | (with_reducible refine Kd.C_drew ?_))); (case side2 => exact (Kd.S_reads' HO_398001.out).2.1); (case side3 => exact Tabs.below HT_.out (by repeat (first | (with_reducible first | exact HB.out | apply below_alloc | apply pw_below_drewN | apply below_drew1 | refine below_set ?_ GE384.out | refine below_set ?_ GE397.out) | exact HB.out))); rintro e w48 ⟨rfl, hb⟩; refine ⟨_, rfl, ?_⟩; have n0_ := Aside0.mk (Kd.S_below (by (with_reducible repeat (first | apply Kd.S_alloc | apply Kd.S_drewN | apply Kd.S_drew)); exact HO_398001.out) hb); have n1_ := Aside0.mk (blk_below (g := gb384) (o := .cells #[.int .i64 a0_0, .slice A0_1 l0_1.length c0_1] 26 (0, 0)) (by (with_reducible repeat (first | refine blk_drewN ?_ _ | refine blk_drew ?_ | refine blk_alloc ?_ _)); exact BK384.out) hb); have n2_ := Aside0.mk (blk_below (g := gb397) (o := .cells #[.int .i64 t392, .slice Ao25 t393.length co25] 26 (0, 0)) (by (with_reducible repeat (first | refine blk_drewN ?_ _ | refine blk_drew ?_ | refine blk_alloc ?_ _)); exact BK397.out) hb); have n3_ := Aside0.mk (below_step (by repeat (first | (with_reducible first | exact HB.out | apply below_alloc | apply pw_below_drewN | apply below_drew1 | refine below_set ?_ GE384.out | refine below_set ?_ GE397.out) | exact HB.out)) hb); clear HO_398001; clear BK384; clear BK397; clear HB; have HO_398001 := n0_; have BK384 := n1_; have BK397 := n2_; have HB := n3_; clear n0_ n1_ n2_ n3_; (try clear hb); (try clear hb2); (try clear hk); (try clear hi)))
                          go_ret
                          exact ⟨by first | rfl | (simp [ne_nil_b, eq_nil_b]; done) | (simp [errW_none, errW_some] <;> rfl) | (simp [*, errW_none, errW_some] <;> rfl), by repeat (first | (with_reducible first | exact HB.out | apply below_alloc | apply pw_below_drewN | apply below_drew1 | refine below_set ?_ GE384.out | refine below_set ?_ GE397.out) | exact HB.out)⟩
                        · rw [if_neg c43] at H
                          exact absurd H (by simp)
                      · rw [if_neg c42] at H
                        exact absurd H (by simp)
                    · rw [if_neg c41] at H
                      exact absurd H (by simp)
end Go.Proofs.YtinbpjodheceoaaDoor.Sp
