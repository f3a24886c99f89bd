/- Written by this session's programs (sprint.py, prune.py). -/
import Derived.Test.YtinbpjodheceoaaDoorXbSp0
import Derived.Test.YtinbpjodheceoaaDoorXbSp2
import Derived.Test.YtinbpjodheceoaaDoorXbSp5
import Derived.Test.YtinbpjodheceoaaDoorXbSp8
import Derived.Test.YtinbpjodheceoaaDoorXbSp12
import Derived.Test.YtinbpjodheceoaaDoorXbSp13
import Derived.Test.YtinbpjodheceoaaDoorXbSp14
namespace Go.Proofs.YtinbpjodheceoaaDoor.Sp
open Go.RowKit Go.Proofs.YtinbpjodheceoaaDoorW.PrintWords Go.Proofs.YtinbpjodheceoaaDoorW.PrintLast Go.Proofs.YtinbpjodheceoaaDoorW.PrintMore
attribute [local go_sem] max2_int min2_int max_two min_two max_three min_three max_four min_four   -- for this text's walks alone
set_option linter.unusedVariables false
set_option linter.unusedSimpArgs false
attribute [local go_sem] own_leq own_gtr own_geq   -- for this text's walks alone
mutual
def blotterlaw03_ChangeNothing.l0 : Nat → List Int → Bool → Int → Int → List (S43) → Option (Bool)
  | 0, _, _, _, _, _ => none
  | k + 1, x0, x3, x5, x306000, x306001 => if x5 < (x0.length : Int) then (blotterlaw03_ChangeNothing.j1 k x0 x3 x5 (decide (x5 < 100)) x306000 x306001) else (blotterlaw03_ChangeNothing.j1 k x0 x3 x5 false x306000 x306001)
def blotterlaw03_ChangeNothing.j1 : Nat → List Int → Bool → Int → Bool → Int → List (S43) → Option (Bool)
  | 0, _, _, _, _, _, _ => none
  | k + 1, x0, x3, x5, x22, x306000, x306001 => if x22 = true then (if 0 ≤ x5 then (if x5 < (x0.length : Int) then (if x306001.length < 2513169434916 then (blotterlaw03_ChangeNothing.l0 k x0 x3 (wrap64 (x5 + 1)) (wrap64 (x306000 + (wrap64 (1 + (Go.bits .and .i64 (rd x0 x5) 127))))) (x306001 ++ [(⟨1, wrap64 (1 + (Go.bits .and .i64 (rd x0 x5) 127)), (⟨#[]⟩ : ByteArray), ([] : List (S90))⟩ : S43)])) else (none)) else (none)) else (none)) else ((change_Normal.f k x306000 x306001).bind fun bt310 => ((change_Nothing.f k x306000).bind fun bt316 => ((change_To.f k x306000 x306001).bind fun bt322 => (if x3 = true then (if bt310.2.2 = 0 then (if bt316.2.2 = 0 then (if bt322.2 = 0 then (if bt322.1 = x306000 then ((change_Same.f k bt310.1 bt310.2.1 bt316.1 bt316.2.1).bind fun t324 => (if t324 = true then ((change_Is.f k bt316.1 bt316.2.1).bind fun t325 => (some t325)) else (none))) else (none)) else (none)) else (none)) else (none)) else (none)))))
end
def blotterlaw03_ChangeNothing.f (k : Nat) (l0 : List Int) : Option (Bool) := (blotterlaw03_awake.f k).bind fun t304 => (blotterlaw03_ChangeNothing.l0 k l0 t304 0 0 ([] : List (S43)))
theorem blotterlaw03_ChangeNothing.mono_l : ∀ k, (∀ y0 y1 y2 y3 y4, LeO (blotterlaw03_ChangeNothing.l0 k y0 y1 y2 y3 y4) (blotterlaw03_ChangeNothing.l0 (k + 1) y0 y1 y2 y3 y4)) ∧ (∀ y0 y1 y2 y3 y4 y5, LeO (blotterlaw03_ChangeNothing.j1 k y0 y1 y2 y3 y4 y5) (blotterlaw03_ChangeNothing.j1 (k + 1) y0 y1 y2 y3 y4 y5))
  | 0 => ⟨fun _ _ _ _ _ r h => by simp [blotterlaw03_ChangeNothing.l0] at h, fun _ _ _ _ _ _ r h => by simp [blotterlaw03_ChangeNothing.j1] at h⟩
  | k + 1 => by
    obtain ⟨ih0, ih1⟩ := blotterlaw03_ChangeNothing.mono_l k
    refine ⟨?_, ?_⟩
    · intro y0 y1 y2 y3 y4
      unfold blotterlaw03_ChangeNothing.l0
      repeat' first
      | (with_reducible exact ih0 _ _ _ _ _)
      | (with_reducible exact ih1 _ _ _ _ _ _)
      | (with_reducible exact blotterlaw03_awake.mono _)
      | (with_reducible exact change_Is.mono _ _ _)
      | (with_reducible exact change_Normal.mono _ _ _)
      | (with_reducible exact change_Nothing.mono _ _)
      | (with_reducible exact change_Same.mono _ _ _ _ _)
      | (with_reducible exact change_To.mono _ _ _)
      | (with_reducible exact LeO.refl _)
      | (with_reducible exact LeO.none _)
      | (with_reducible refine LeO.ite ?_ ?_)
      | (with_reducible refine LeO.bind ?_ (fun _ => ?_))
      | exact ih0 _ _ _ _ _
      | exact ih1 _ _ _ _ _ _
      | exact blotterlaw03_awake.mono _
      | exact change_Is.mono _ _ _
      | exact change_Normal.mono _ _ _
      | exact change_Nothing.mono _ _
      | exact change_Same.mono _ _ _ _ _
      | exact change_To.mono _ _ _
      | exact LeO.none _
      | refine LeO.ite ?_ ?_
      | refine LeO.bind ?_ (fun _ => ?_)
    · intro y0 y1 y2 y3 y4 y5
      unfold blotterlaw03_ChangeNothing.j1
      repeat' first
      | (with_reducible exact ih0 _ _ _ _ _)
      | (with_reducible exact ih1 _ _ _ _ _ _)
      | (with_reducible exact blotterlaw03_awake.mono _)
      | (with_reducible exact change_Is.mono _ _ _)
      | (with_reducible exact change_Normal.mono _ _ _)
      | (with_reducible exact change_Nothing.mono _ _)
      | (with_reducible exact change_Same.mono _ _ _ _ _)
      | (with_reducible exact change_To.mono _ _ _)
      | (with_reducible exact LeO.refl _)
      | (with_reducible exact LeO.none _)
      | (with_reducible refine LeO.ite ?_ ?_)
      | (with_reducible refine LeO.bind ?_ (fun _ => ?_))
      | exact ih0 _ _ _ _ _
      | exact ih1 _ _ _ _ _ _
      | exact blotterlaw03_awake.mono _
      | exact change_Is.mono _ _ _
      | exact change_Normal.mono _ _ _
      | exact change_Nothing.mono _ _
      | exact change_Same.mono _ _ _ _ _
      | exact change_To.mono _ _ _
      | exact LeO.none _
      | refine LeO.ite ?_ ?_
      | refine LeO.bind ?_ (fun _ => ?_)
theorem blotterlaw03_ChangeNothing.mono : ∀ a0 k, LeO (blotterlaw03_ChangeNothing.f k a0) (blotterlaw03_ChangeNothing.f (k + 1) a0) := by
  intro a0 k
  obtain ⟨ih0, ih1⟩ := blotterlaw03_ChangeNothing.mono_l k
  unfold blotterlaw03_ChangeNothing.f
  repeat' first
      | (with_reducible exact ih0 _ _ _ _ _)
      | (with_reducible exact ih1 _ _ _ _ _ _)
      | (with_reducible exact blotterlaw03_awake.mono _)
      | (with_reducible exact change_Is.mono _ _ _)
      | (with_reducible exact change_Normal.mono _ _ _)
      | (with_reducible exact change_Nothing.mono _ _)
      | (with_reducible exact change_Same.mono _ _ _ _ _)
      | (with_reducible exact change_To.mono _ _ _)
      | (with_reducible exact LeO.refl _)
      | (with_reducible exact LeO.none _)
      | (with_reducible refine LeO.ite ?_ ?_)
      | (with_reducible refine LeO.bind ?_ (fun _ => ?_))
      | exact ih0 _ _ _ _ _
      | exact ih1 _ _ _ _ _ _
      | exact blotterlaw03_awake.mono _
      | exact change_Is.mono _ _ _
      | exact change_Normal.mono _ _ _
      | exact change_Nothing.mono _ _
      | exact change_Same.mono _ _ _ _ _
      | exact change_To.mono _ _ _
      | exact LeO.none _
      | refine LeO.ite ?_ ?_
      | refine LeO.bind ?_ (fun _ => ?_)
set_option maxHeartbeats 8000000 in
set_option maxRecDepth 100000 in
theorem blotterlaw03_ChangeNothing.calls (k : Nat) (A0 : Option Addr) (c0 : Nat) (l0 : List Int) (r : Bool) (w : World) (hr0 : Kd.C (Kd.int .i64) w A0 l0.length l0) (hc0 : l0.length ≤ c0) (hT_ : Tabs w) (h : blotterlaw03_ChangeNothing.f k l0 = some r) :
    Calls Tryd.prog 8 #[.slice A0 l0.length c0] w fun e w' => e = .returned (.bool r) ∧ Below w.heap.size w w' := by
  have hu26 := Tryd.underlying26
  have hu43 := Tryd.underlying43
  have HT_ := Aside0.mk hT_
  clear hT_
  have HR0 := Aside0.mk hr0
  have HC0 := Aside0.mk hc0
  clear hr0 hc0
  have HB := Aside0.mk (Below.refl w.heap.size w)
  have H : ((blotterlaw03_awake.f k).bind fun t304 => (blotterlaw03_ChangeNothing.l0 k l0 t304 0 0 ([] : List (S43)))) = some r := h
  clear h
  replace H := Option.bind_eq_some_iff.mp H
  obtain ⟨t304, A20, H⟩ := H
  replace H : (blotterlaw03_ChangeNothing.l0 k l0 t304 0 0 ([] : List (S43))) = some r := H
  have A2 := Aside0.mk A20
  clear A20
  have H' := Aside0.mk H
  clear H
  go_enter Tryd.func8, Tryd.ntmps8
  go_wp2_with (first | ((with_reducible refine gate_callee (f := 20) rfl ?_); refine goesL_ (some 13) rfl rfl Tryd.func20 (by kernel_rfl) rfl #[] rfl (by (try simp only [List.map_toArray, List.map_cons, List.map_nil]); first | done | rfl | (simp only [List.length_drop, List.length_take]; rfl)) ?_; (with_reducible refine (blotterlaw03_awake.calls k  t304 _ ?side1 A2.out).mono ?_); (case side1 => exact Tabs.below HT_.out (by repeat (first | (with_reducible first | exact HB.out | apply below_alloc | apply pw_below_drewN | apply below_drew1) | exact HB.out))); rintro e w3 ⟨rfl, hb⟩; refine ⟨_, rfl, ?_⟩; have n0_ := Aside0.mk (below_step (by repeat (first | (with_reducible first | exact HB.out | apply below_alloc | apply pw_below_drewN | apply below_drew1) | exact HB.out)) hb); clear HB; have HB := n0_; clear n0_; (try clear hb); (try clear hb2); (try clear hk); (try clear hi)) | ((with_reducible refine gate_dst (N := 4) rfl ?_); refine box_event ?hg (N := 4) ?hd (cs := #[.int .i64 0, .slice none 0 0]) (t := 26) ?hr ?_; (case hd => rfl); (case hg => rfl); (case hr => first | (go_simp; done) | (go_simp; rfl)); intro gb305 hg w4 hbox hb; have n0_ := Aside0.mk (below_step (by repeat (first | (with_reducible first | exact HB.out | apply below_alloc | apply pw_below_drewN | apply below_drew1) | exact HB.out)) hb); have n1_ := Aside0.mk (hbox); have n2_ := Aside0.mk ((by rw [hg]; exact (below_size (by repeat (first | (with_reducible first | exact HB.out | apply below_alloc | apply pw_below_drewN | apply below_drew1) | exact HB.out))) : w.heap.size ≤ gb305)); have n3_ := Aside0.mk ((by rw [hg]; exact (below_size (by repeat (first | (with_reducible first | exact HB.out | apply below_alloc | apply pw_below_drewN | apply below_drew1) | exact HB.out))) : w.heap.size ≤ gb305)); clear HB; have HB := n0_; have BK305 := n1_; have GW305 := n2_; have GE305 := n3_; clear n0_ n1_ n2_ n3_; clear hb hbox hg; have hcz5_0 : w4.cell? ⟨gb305, 0, none⟩ = some (.int .i64 0) := (blk_cell BK305.out 0).trans rfl; have hcz5_1 : w4.cell? ⟨gb305, 1, none⟩ = some (.slice none 0 0) := (blk_cell BK305.out 1).trans rfl; have hfz5_0 := blk_frozen BK305.out 0; have hfz5_1 := blk_frozen BK305.out 1))
  go_loopg [5] k (fun kq v5 w' => ∃ (x5_1 : Int) (x306000_1 : Int) (x306001_1 : List (S43)) (u306001 : Value), v5 = .int .i64 x5_1 ∧ Aside0 (blotterlaw03_ChangeNothing.l0 kq l0 t304 x5_1 x306000_1 x306001_1 = some r) ∧ Aside0 (kq ≤ k) ∧ Aside0 (Kd.S k43 43 w' w.heap.size (fun _ => True) u306001 x306001_1) ∧ Aside0 (w'.heap[gb305]? = some (.cells #[.int .i64 x306000_1, u306001] 26 (0, 0))) ∧ Aside0 (Below w.heap.size w w'))
  case atStart => exact ⟨(0), (0), (([] : List (S43))), (.slice none 0 0), (by first | rfl | (simp; done) | (simp [*]; done)), H', ⟨Nat.le_refl _⟩, ⟨by first | exact Kd.S_nil _ _ _ _ _ | exact Kd.N_nil _ _ _ _ _ | exact Kd.V_nil _ _ _ _ _ | exact Kd.Q_nil _ _ _ _ _ | exact Kd.R_nil _ _ _ _ _⟩, ⟨by (with_reducible repeat (first | refine blk_drewN ?_ _ | refine blk_drew ?_ | refine blk_alloc ?_ _)); refine blk_put (cs := #[.int .i64 0, .slice none 0 0]) ?_ 1 _ rfl; (with_reducible repeat (first | refine blk_drewN ?_ _ | refine blk_drew ?_ | refine blk_alloc ?_ _)); refine blk_put (cs := #[.int .i64 0, .slice none 0 0]) ?_ 0 _ rfl; (with_reducible repeat (first | refine blk_drewN ?_ _ | refine blk_drew ?_ | refine blk_alloc ?_ _)); exact BK305.out⟩, ⟨by repeat (first | (with_reducible first | exact HB.out | apply below_alloc | apply pw_below_drewN | apply below_drew1 | refine below_set ?_ GE305.out) | exact HB.out)⟩⟩
  case round =>
    clear H'
    try clear c2
    try clear p2
    try clear hcz5_0
    try clear hcz5_1
    try clear hfz5_0
    try clear hfz5_1
    obtain ⟨x5_1, x306000_1, x306001_1, u306001, rfl, HA, HK1, HO_306001, BK305, HB⟩ := hrel
    cases gk with
    | zero => exact absurd HA.out (by simp [blotterlaw03_ChangeNothing.l0])
    | succ k1 =>
      have H := HA.out
      clear HA
      simp only [blotterlaw03_ChangeNothing.l0] at H
      have HC6 := Aside0.mk H
      clear H
      go_upto_region 4 with (fail)
      go_cut [22] (fun v22 wc => ∃ (kq : Nat) (x22_5 : Bool), v22 = .bool x22_5 ∧ Aside0 (blotterlaw03_ChangeNothing.j1 kq l0 t304 x5_1 x22_5 x306000_1 x306001_1 = some r) ∧ Aside0 (kq ≤ k1) ∧ Aside0 (Kd.S k43 43 wc w.heap.size (fun _ => True) u306001 x306001_1) ∧ Aside0 (wc.heap[gb305]? = some (.cells #[.int .i64 x306000_1, u306001] 26 (0, 0))) ∧ Aside0 (Below w.heap.size w wc))
      case first =>
        have H := HC6.out
        clear HC6
        by_cases c7 : x5_1 < (l0.length : Int)
        · rw [if_pos c7] at H
          have c7b0 : decide (x5_1 < (l0.length : Int)) = true := decide_eq_true c7
          clear c7
          (first | rw [c7b0] | (simp only [i64_w, i32_w]; rw [c7b0]) | skip)
          have H' := Aside0.mk H
          clear H
          go_wp2
          go_meet
          case rel => exact ⟨_, (decide (x5_1 < 100)), (by first | rfl | (simp; done) | (simp [*]; done)), H', ⟨by have := HK1.out; first | omega | exact Nat.le_refl _⟩, ⟨by (with_reducible repeat (first | apply Kd.S_alloc | apply Kd.S_drewN | apply Kd.S_drew)); exact HO_306001.out⟩, ⟨by (with_reducible repeat (first | refine blk_drewN ?_ _ | refine blk_drew ?_ | refine blk_alloc ?_ _)); exact BK305.out⟩, ⟨by repeat (first | (with_reducible first | exact HB.out | apply below_alloc | apply pw_below_drewN | apply below_drew1 | refine below_set ?_ GE305.out) | exact HB.out)⟩⟩
        · rw [if_neg c7] at H
          have c7b0 : decide (x5_1 < (l0.length : Int)) = false := decide_eq_false c7
          clear c7
          (first | rw [c7b0] | (simp only [i64_w, i32_w]; rw [c7b0]) | skip)
          have H' := Aside0.mk H
          clear H
          go_wp2
          go_meet
          case rel => exact ⟨_, (false), (by first | rfl | (simp; done) | (simp [*]; done)), H', ⟨by have := HK1.out; first | omega | exact Nat.le_refl _⟩, ⟨by (with_reducible repeat (first | apply Kd.S_alloc | apply Kd.S_drewN | apply Kd.S_drew)); exact HO_306001.out⟩, ⟨by (with_reducible repeat (first | refine blk_drewN ?_ _ | refine blk_drew ?_ | refine blk_alloc ?_ _)); exact BK305.out⟩, ⟨by repeat (first | (with_reducible first | exact HB.out | apply below_alloc | apply pw_below_drewN | apply below_drew1 | refine below_set ?_ GE305.out) | exact HB.out)⟩⟩
      case rest =>
        clear HC6
        try clear c2
        try clear p2
        try clear c7
        try clear c7b0
        try clear hcz5_0
        try clear hcz5_1
        try clear hfz5_0
        try clear hfz5_1
        try clear p2
        obtain ⟨kq, x22_5, rfl, HA, HJ5, HO_306001, BK305, HB⟩ := hcut
        cases kq with
        | zero => exact absurd HA.out (by simp [blotterlaw03_ChangeNothing.j1])
        | succ kj5 =>
          have H := HA.out
          clear HA
          simp only [blotterlaw03_ChangeNothing.j1] at H
          by_cases c8 : x22_5 = true
          · subst c8
            have H1 : (if 0 ≤ x5_1 then (if x5_1 < (l0.length : Int) then (if x306001_1.length < 2513169434916 then (blotterlaw03_ChangeNothing.l0 kj5 l0 t304 (wrap64 (x5_1 + 1)) (wrap64 (x306000_1 + (wrap64 (1 + (Go.bits .and .i64 (rd l0 x5_1) 127))))) (x306001_1 ++ [(⟨1, wrap64 (1 + (Go.bits .and .i64 (rd l0 x5_1) 127)), (⟨#[]⟩ : ByteArray), ([] : List (S90))⟩ : S43)])) else (none)) else (none)) else (none)) = some r := by rw [if_pos rfl] at H; exact H
            clear H
            have H := H1
            clear H1
            by_cases c9 : 0 ≤ x5_1
            · rw [if_pos c9] at H
              have c9b0 : decide (0 ≤ x5_1) = true := decide_eq_true c9
              clear c9
              by_cases c10 : x5_1 < (l0.length : Int)
              · rw [if_pos c10] at H
                have c10b0 : decide (x5_1 < (l0.length : Int)) = true := decide_eq_true c10
                clear c10
                by_cases c11 : x306001_1.length < 2513169434916
                · rw [if_pos c11] at H
                  have LMc11 := Aside0.mk c11
                  clear c11
                  obtain ⟨y307, hy307⟩ : ∃ y_ : List (S43), y_ = (x306001_1 ++ [(⟨1, wrap64 (1 + (Go.bits .and .i64 (rd l0 x5_1) 127)), (⟨#[]⟩ : ByteArray), ([] : List (S90))⟩ : S43)]) := ⟨_, rfl⟩
                  replace H : (blotterlaw03_ChangeNothing.l0 kj5 l0 t304 (wrap64 (x5_1 + 1)) (wrap64 (x306000_1 + (wrap64 (1 + (Go.bits .and .i64 (rd l0 x5_1) 127))))) y307) = some r := by first | (rw [hy307]; with_reducible exact H) | (have H2_ := (Option.bind_some _ _).symm.trans H; rw [hy307]; with_reducible exact H2_) | (have H2_ := (Option.bind_some _ _).symm.trans H; with_reducible exact H2_) | with_reducible exact H | (rw [hy307]; exact H) | exact H
                  have Ny307 := Aside0.mk hy307
                  clear hy307
                  have H' := Aside0.mk H
                  clear H
                  have p306 : 0 ≤ (x5_1 : Int) := of_decide_eq_true (by first | (with_reducible assumption) | assumption)
                  have q306 : x5_1 < (l0.length : Int) := of_decide_eq_true (by first | (with_reducible assumption) | assumption)
                  obtain ⟨ad306, e306, hx306_0⟩ := Kd.at_int HR0.out x5_1 p306 q306
                  cases e306
                  replace hx306_0 := (HB.out.cell (World.block_lt_of_cell? w _ hx306_0)).trans hx306_0
                  replace p306 := eq_true p306
                  replace q306 := eq_true q306
                  have hcz12_0 : wc.cell? ⟨gb305, 0, none⟩ = some (.int .i64 x306000_1) := (blk_cell BK305.out 0).trans rfl
                  have hcz12_1 : wc.cell? ⟨gb305, 1, none⟩ = some (u306001) := (blk_cell BK305.out 1).trans rfl
                  have hfz12_0 := blk_frozen BK305.out 0
                  have hfz12_1 := blk_frozen BK305.out 1
                  go_wp2_with (first | ((with_reducible refine gate_builtin (b := .append) (xs := #[.tmp 37, .tmp 40]) rfl ?_); at_builtin; refine Kd.S_append k43 (w0 := w) w.heap.size rfl (.tmp 37) (.tmp 40) 24 43 (.agg #[(.int .i64 0), (.int .i64 0), (.string ⟨#[]⟩), (.slice none 0 0)]) 56 rfl Tryd.underlying24 info43 rfl (by decide) (by omega) u306001 x306001_1 (⟨1, wrap64 (1 + (Go.bits .and .i64 (rd l0 x5_1) 127)), (⟨#[]⟩ : ByteArray), ([] : List (S90))⟩ : S43) [.int .i64 1, .int .i64 (wrap64 (1 + (Go.bits .and .i64 (rd l0 x5_1) 127))), .string (⟨#[]⟩ : ByteArray), .slice none 0 0] (fun _ => True) (fun _ => False) rfl (by first | (go_simp; done) | (go_simp; rfl)) ?aP (fun k_ hk_ => hk_.elim) ?aF ?aO ?aB ?aS ?aL ?_; (case aP => exact k43_mkM _ _ _ (⟨1, wrap64 (1 + (Go.bits .and .i64 (rd l0 x5_1) 127)), (⟨#[]⟩ : ByteArray), ([] : List (S90))⟩ : S43) (Kd.R_nil _ _ _ _ _)); (case aB => exact (by repeat (first | (with_reducible first | exact HB.out | apply below_alloc | apply pw_below_drewN | apply below_drew1 | refine below_set ?_ GE305.out) | exact HB.out))); (case aF => exact (fun _ _ => trivial)); (case aO => exact (by (with_reducible repeat (first | apply Kd.S_alloc | apply Kd.S_drewN | apply Kd.S_drew)); exact Kd.S_mono (Kd.S_far (p := ⟨gb305, 0, none⟩) (Kd.S_types HO_306001.out BK305.out (by decide)) (fun _ hk => hk.2) (.int .i64 (wrap64 (x306000_1 + (wrap64 (1 + (Go.bits .and .i64 (rd l0 x5_1) 127))))))) (fun k_ hk => ⟨trivial, fun e_ => e_⟩))); (case aS => exact (below_size (by repeat (first | (with_reducible first | exact HB.out | apply below_alloc | apply pw_below_drewN | apply below_drew1 | refine below_set ?_ GE305.out) | exact HB.out)))); (case aL => have := LMc11.out; omega); intro v308 w13 ho hb hg hat; rw [← Ny307.out] at ho; have n0_ := Aside0.mk (blk_grown (g := gb305) (o := .cells #[.int .i64 (wrap64 (x306000_1 + (wrap64 (1 + (Go.bits .and .i64 (rd l0 x5_1) 127))))), u306001] 26 (0, 0)) (by (with_reducible repeat (first | refine blk_drewN ?_ _ | refine blk_drew ?_ | refine blk_alloc ?_ _)); refine blk_put (cs := #[.int .i64 x306000_1, u306001]) ?_ 0 _ rfl; (with_reducible repeat (first | refine blk_drewN ?_ _ | refine blk_drew ?_ | refine blk_alloc ?_ _)); exact BK305.out) hg (Kd.S_ne HO_306001.out BK305.out (by decide))); have n1_ := Aside0.mk (hb); have n2_ := Aside0.mk (ho); clear BK305; clear HB; clear HO_306001; have BK305 := n0_; have HB := n1_; have HO309 := n2_; clear n0_ n1_ n2_; clear ho hb hg hat; obtain ⟨Ao14, co14, eo14⟩ := Kd.S_slice HO309.out; subst eo14; have hcz15_0 : w13.cell? ⟨gb305, 0, none⟩ = some (.int .i64 (wrap64 (x306000_1 + (wrap64 (1 + (Go.bits .and .i64 (rd l0 x5_1) 127)))))) := (blk_cell BK305.out 0).trans rfl; have hcz15_1 : w13.cell? ⟨gb305, 1, none⟩ = some (u306001) := (blk_cell BK305.out 1).trans rfl; have hfz15_0 := blk_frozen BK305.out 0; have hfz15_1 := blk_frozen BK305.out 1))
                  go_roundg kj5
                  case measure => have := HK1.out; have := HJ5.out; omega
                  case rel => exact ⟨(wrap64 (x5_1 + 1)), (wrap64 (x306000_1 + (wrap64 (1 + (Go.bits .and .i64 (rd l0 x5_1) 127))))), (y307), (.slice Ao14 y307.length co14), (by first | rfl | (simp; done) | (simp [*]; done)), H', ⟨by have := HK1.out; have := HJ5.out; omega⟩, ⟨by (with_reducible repeat (first | apply Kd.S_alloc | apply Kd.S_drewN | apply Kd.S_drew)); exact Kd.S_mono (Kd.S_far (p := ⟨gb305, 1, none⟩) (Kd.S_types HO309.out BK305.out (by decide)) (fun _ hk => hk.2) (.slice Ao14 y307.length co14)) (fun _ hk => trivial)⟩, ⟨by (with_reducible repeat (first | refine blk_drewN ?_ _ | refine blk_drew ?_ | refine blk_alloc ?_ _)); refine blk_put (cs := #[.int .i64 (wrap64 (x306000_1 + (wrap64 (1 + (Go.bits .and .i64 (rd l0 x5_1) 127))))), u306001]) ?_ 1 _ rfl; (with_reducible repeat (first | refine blk_drewN ?_ _ | refine blk_drew ?_ | refine blk_alloc ?_ _)); exact BK305.out⟩, ⟨by repeat (first | (with_reducible first | exact HB.out | apply below_alloc | apply pw_below_drewN | apply below_drew1 | refine below_set ?_ GE305.out) | exact HB.out)⟩⟩
                · rw [if_neg c11] at H
                  exact absurd H (by simp)
              · rw [if_neg c10] at H
                exact absurd H (by simp)
            · rw [if_neg c9] at H
              exact absurd H (by simp)
          · replace c8 := Bool.eq_false_iff.mpr c8
            subst c8
            have H1 : ((change_Normal.f kj5 x306000_1 x306001_1).bind fun bt310 => ((change_Nothing.f kj5 x306000_1).bind fun bt316 => ((change_To.f kj5 x306000_1 x306001_1).bind fun bt322 => (if t304 = true then (if bt310.2.2 = 0 then (if bt316.2.2 = 0 then (if bt322.2 = 0 then (if bt322.1 = x306000_1 then ((change_Same.f kj5 bt310.1 bt310.2.1 bt316.1 bt316.2.1).bind fun t324 => (if t324 = true then ((change_Is.f kj5 bt316.1 bt316.2.1).bind fun t325 => (some t325)) else (none))) else (none)) else (none)) else (none)) else (none)) else (none))))) = some r := by rw [if_neg (show ¬ (false = true) by decide)] at H; exact H
            clear H
            have H := H1
            clear H1
            replace H := Option.bind_eq_some_iff.mp H
            obtain ⟨⟨t310, t311, t314⟩, A160, H⟩ := H
            replace H : ((change_Nothing.f kj5 x306000_1).bind fun bt316 => ((change_To.f kj5 x306000_1 x306001_1).bind fun bt322 => (if t304 = true then (if t314 = 0 then (if bt316.2.2 = 0 then (if bt322.2 = 0 then (if bt322.1 = x306000_1 then ((change_Same.f kj5 t310 t311 bt316.1 bt316.2.1).bind fun t324 => (if t324 = true then ((change_Is.f kj5 bt316.1 bt316.2.1).bind fun t325 => (some t325)) else (none))) else (none)) else (none)) else (none)) else (none)) else (none)))) = some r := H
            have A16 := Aside0.mk A160
            clear A160
            replace H := Option.bind_eq_some_iff.mp H
            obtain ⟨⟨t316, t317, t320⟩, A170, H⟩ := H
            replace H : ((change_To.f kj5 x306000_1 x306001_1).bind fun bt322 => (if t304 = true then (if t314 = 0 then (if t320 = 0 then (if bt322.2 = 0 then (if bt322.1 = x306000_1 then ((change_Same.f kj5 t310 t311 t316 t317).bind fun t324 => (if t324 = true then ((change_Is.f kj5 t316 t317).bind fun t325 => (some t325)) else (none))) else (none)) else (none)) else (none)) else (none)) else (none))) = some r := H
            have A17 := Aside0.mk A170
            clear A170
            replace H := Option.bind_eq_some_iff.mp H
            obtain ⟨⟨t322, t323⟩, A180, H⟩ := H
            replace H : (if t304 = true then (if t314 = 0 then (if t320 = 0 then (if t323 = 0 then (if t322 = x306000_1 then ((change_Same.f kj5 t310 t311 t316 t317).bind fun t324 => (if t324 = true then ((change_Is.f kj5 t316 t317).bind fun t325 => (some t325)) else (none))) else (none)) else (none)) else (none)) else (none)) else (none)) = some r := H
            have A18 := Aside0.mk A180
            clear A180
            by_cases c19 : t304 = true
            · subst c19
              have H1 : (if t314 = 0 then (if t320 = 0 then (if t323 = 0 then (if t322 = x306000_1 then ((change_Same.f kj5 t310 t311 t316 t317).bind fun t324 => (if t324 = true then ((change_Is.f kj5 t316 t317).bind fun t325 => (some t325)) else (none))) else (none)) else (none)) else (none)) else (none)) = some r := by rw [if_pos rfl] at H; exact H
              clear H
              have H := H1
              clear H1
              by_cases c20 : t314 = 0
              · rw [if_pos c20] at H
                have c20b0 : (t314 == 0) = true := beq_iff_eq.mpr c20
                have c20b1 : (t314 != 0) = false := bne_eq_false_iff_eq.mpr c20
                clear c20
                by_cases c21 : t320 = 0
                · rw [if_pos c21] at H
                  have c21b0 : (t320 == 0) = true := beq_iff_eq.mpr c21
                  have c21b1 : (t320 != 0) = false := bne_eq_false_iff_eq.mpr c21
                  clear c21
                  by_cases c22 : t323 = 0
                  · rw [if_pos c22] at H
                    have c22b0 : (t323 == 0) = true := beq_iff_eq.mpr c22
                    have c22b1 : (t323 != 0) = false := bne_eq_false_iff_eq.mpr c22
                    clear c22
                    by_cases c23 : t322 = x306000_1
                    · rw [if_pos c23] at H
                      have c23b0 : (t322 == x306000_1) = true := beq_iff_eq.mpr c23
                      have c23b1 : (t322 != x306000_1) = false := bne_eq_false_iff_eq.mpr c23
                      clear c23
                      replace H := Option.bind_eq_some_iff.mp H
                      obtain ⟨t324, A240, H⟩ := H
                      replace H : (if t324 = true then ((change_Is.f kj5 t316 t317).bind fun t325 => (some t325)) else (none)) = some r := H
                      have A24 := Aside0.mk A240
                      clear A240
                      by_cases c25 : t324 = true
                      · subst c25
                        have H1 : ((change_Is.f kj5 t316 t317).bind fun t325 => (some t325)) = some r := by rw [if_pos rfl] at H; exact H
                        clear H
                        have H := H1
                        clear H1
                        replace H := Option.bind_eq_some_iff.mp H
                        obtain ⟨t325, A260, H⟩ := H
                        replace H : (some t325) = some r := H
                        have A26 := Aside0.mk A260
                        clear A260
                        obtain rfl := Option.some.inj H
                        have hcz27_0 : wc.cell? ⟨gb305, 0, none⟩ = some (.int .i64 x306000_1) := (blk_cell BK305.out 0).trans rfl
                        have hcz27_1 : wc.cell? ⟨gb305, 1, none⟩ = some (u306001) := (blk_cell BK305.out 1).trans rfl
                        have hfz27_0 := blk_frozen BK305.out 0
                        have hfz27_1 := blk_frozen BK305.out 1
                        obtain ⟨Ao28, co28, eo28⟩ := Kd.S_slice HO_306001.out
                        subst eo28
                        go_wp2_with (first | ((with_reducible refine gate_callee (f := 21) rfl ?_); refine goesL_ (some 45) rfl rfl Tryd.func21 (by kernel_rfl) rfl #[.agg #[.int .i64 x306000_1, .slice Ao28 x306001_1.length co28]] rfl (by (try simp only [List.map_toArray, List.map_cons, List.map_nil]); first | done | rfl | (simp only [List.length_drop, List.length_take]; rfl)) ?_; (with_reducible refine (change_Normal.calls kj5 x306000_1 _ _ x306001_1 t310 t311 t314 _ ?side1 ?side2 ?side3 A16.out).mono ?_); (case side1 => repeat (first | exact (Kd.S_reads' HO_306001.out).2.2 | (with_reducible refine Kd.C_alloc ?_ _) | (with_reducible refine Kd.C_drewN ?_ _) | (with_reducible refine Kd.C_drew ?_))); (case side2 => exact (Kd.S_reads' HO_306001.out).2.1); (case side3 => exact Tabs.below HT_.out (by repeat (first | (with_reducible first | exact HB.out | apply below_alloc | apply pw_below_drewN | apply below_drew1 | refine below_set ?_ GE305.out) | exact HB.out))); rintro e w29 ⟨v312, rfl, ho0, hb⟩; refine ⟨_, rfl, ?_⟩; have n0_ := Aside0.mk (Kd.S_below (by (with_reducible repeat (first | apply Kd.S_alloc | apply Kd.S_drewN | apply Kd.S_drew)); exact HO_306001.out) hb); have n1_ := Aside0.mk (Kd.V_lower (Kd.V_mono (ok' := fun k_ => some k_ ≠ (.slice Ao28 x306001_1.length co28 : Value).ownBlock ∧ k_ ≠ gb305) ho0 (fun k_ hk_ => ⟨(Kd.fresh' (Kd.S_lt (by (with_reducible repeat (first | apply Kd.S_alloc | apply Kd.S_drewN | apply Kd.S_drew)); exact HO_306001.out)) k_ hk_), (Kd.freshB (g := gb305) (o := .cells #[.int .i64 x306000_1, .slice Ao28 x306001_1.length co28] 26 (0, 0)) (by (with_reducible repeat (first | refine blk_drewN ?_ _ | refine blk_drew ?_ | refine blk_alloc ?_ _)); exact BK305.out) k_ hk_)⟩)) (below_size (by repeat (first | (with_reducible first | exact HB.out | apply below_alloc | apply pw_below_drewN | apply below_drew1 | refine below_set ?_ GE305.out) | exact HB.out)))); have n2_ := Aside0.mk (blk_below (g := gb305) (o := .cells #[.int .i64 x306000_1, .slice Ao28 x306001_1.length co28] 26 (0, 0)) (by (with_reducible repeat (first | refine blk_drewN ?_ _ | refine blk_drew ?_ | refine blk_alloc ?_ _)); exact BK305.out) hb); have n3_ := Aside0.mk (below_step (by repeat (first | (with_reducible first | exact HB.out | apply below_alloc | apply pw_below_drewN | apply below_drew1 | refine below_set ?_ GE305.out) | exact HB.out)) hb); clear HO_306001; clear BK305; clear HB; have HO_306001 := n0_; have HO313 := n1_; have BK305 := n2_; have HB := n3_; clear n0_ n1_ n2_ n3_; (try clear hb); (try clear hb2); (try clear hk); (try clear hi); (try clear ho0)) | ((with_reducible refine gate_dst (N := 7) rfl ?_); refine box_event ?hg (N := 7) ?hd (cs := #[.int .i64 0, .slice none 0 0]) (t := 26) ?hr ?_; (case hd => rfl); (case hg => rfl); (case hr => first | (go_simp; done) | (go_simp; rfl)); intro gb315 hg w30 hbox hb; have n0_ := Aside0.mk (Kd.S_below (by (with_reducible repeat (first | apply Kd.S_alloc | apply Kd.S_drewN | apply Kd.S_drew)); exact HO_306001.out) hb); have n1_ := Aside0.mk (Kd.V_below (Kd.V_elderB (by (with_reducible repeat (first | apply Kd.V_alloc | apply Kd.V_drewN | apply Kd.V_drew)); exact HO313.out) gb315 (Nat.le_of_eq hg.symm)) hb); have n2_ := Aside0.mk (blk_below (g := gb305) (o := .cells #[.int .i64 x306000_1, .slice Ao28 x306001_1.length co28] 26 (0, 0)) (by (with_reducible repeat (first | refine blk_drewN ?_ _ | refine blk_drew ?_ | refine blk_alloc ?_ _)); exact BK305.out) hb); have n3_ := Aside0.mk (below_step (by repeat (first | (with_reducible first | exact HB.out | apply below_alloc | apply pw_below_drewN | apply below_drew1 | refine below_set ?_ GE305.out) | exact HB.out)) hb); have n4_ := Aside0.mk (hbox); have n5_ := Aside0.mk ((by rw [hg]; exact (below_size (by repeat (first | (with_reducible first | exact HB.out | apply below_alloc | apply pw_below_drewN | apply below_drew1 | refine below_set ?_ GE305.out) | exact HB.out))) : w.heap.size ≤ gb315)); have n6_ := Aside0.mk ((by rw [hg]; exact (below_size (by repeat (first | (with_reducible first | exact HB.out | apply below_alloc | apply pw_below_drewN | apply below_drew1 | refine below_set ?_ GE305.out) | exact HB.out))) : w.heap.size ≤ gb315)); have n7_ := Aside0.mk ((by rw [hg]; exact Nat.ne_of_lt (blk_lt (g := gb305) (o := .cells #[.int .i64 x306000_1, .slice Ao28 x306001_1.length co28] 26 (0, 0)) (by (with_reducible repeat (first | refine blk_drewN ?_ _ | refine blk_drew ?_ | refine blk_alloc ?_ _)); exact BK305.out)) : gb305 ≠ gb315)); have n8_ := Aside0.mk ((by rw [hg]; exact Nat.ne_of_gt (blk_lt (g := gb305) (o := .cells #[.int .i64 x306000_1, .slice Ao28 x306001_1.length co28] 26 (0, 0)) (by (with_reducible repeat (first | refine blk_drewN ?_ _ | refine blk_drew ?_ | refine blk_alloc ?_ _)); exact BK305.out)) : gb315 ≠ gb305)); clear HO_306001; clear HO313; clear BK305; clear HB; have HO_306001 := n0_; have HO313 := n1_; have BK305 := n2_; have HB := n3_; have BK315 := n4_; have GW315 := n5_; have GE315 := n6_; have NB305_315 := n7_; have NB315_305 := n8_; clear n0_ n1_ n2_ n3_ n4_ n5_ n6_ n7_ n8_; clear hb hbox hg; have hnb31 := NB315_305.out; have hnc31 := NB305_315.out; have hcz32_0 : w30.cell? ⟨gb315, 0, none⟩ = some (.int .i64 0) := (blk_cell BK315.out 0).trans rfl; have hcz32_1 : w30.cell? ⟨gb315, 1, none⟩ = some (.slice none 0 0) := (blk_cell BK315.out 1).trans rfl; have hfz32_0 := blk_frozen BK315.out 0; have hfz32_1 := blk_frozen BK315.out 1; obtain ⟨Ao33, co33, eo33⟩ := Kd.V_slice HO313.out; subst eo33; have hcz34_0 : w30.cell? ⟨gb305, 0, none⟩ = some (.int .i64 x306000_1) := (blk_cell BK305.out 0).trans rfl; have hcz34_1 : w30.cell? ⟨gb305, 1, none⟩ = some (.slice Ao28 x306001_1.length co28) := (blk_cell BK305.out 1).trans rfl; have hfz34_0 := blk_frozen BK305.out 0; have hfz34_1 := blk_frozen BK305.out 1) | ((with_reducible refine gate_callee (f := 19) rfl ?_); refine goesL_ (some 51) rfl rfl Tryd.func19 (by kernel_rfl) rfl #[.int .i64 x306000_1] rfl (by (try simp only [List.map_toArray, List.map_cons, List.map_nil]); first | done | rfl | (simp only [List.length_drop, List.length_take]; rfl)) ?_; (with_reducible refine (change_Nothing.calls kj5 x306000_1 t316 t317 t320 _ A17.out).mono ?_); rintro e w35 ⟨v318, rfl, ho0, hb⟩; refine ⟨_, rfl, ?_⟩; have n0_ := Aside0.mk (Kd.S_elder' (by (with_reducible repeat (first | apply Kd.S_alloc | apply Kd.S_drewN | apply Kd.S_drew)); exact (Kd.S_mono (Kd.S_far (p := ⟨gb315, 1, none⟩) (Kd.S_far (p := ⟨gb315, 0, none⟩) (Kd.S_types HO_306001.out BK315.out (by decide)) (fun _ hk => hk.2) (.int .i64 t310)) (fun _ hk => hk.2) (.slice Ao33 t311.length co33)) (fun _ h_ => h_.1))) (Kd.S_base ho0) hb); have n1_ := Aside0.mk (Kd.V_elder' (by (with_reducible repeat (first | apply Kd.V_alloc | apply Kd.V_drewN | apply Kd.V_drew)); exact (Kd.V_mono (Kd.V_far (p := ⟨gb315, 1, none⟩) (Kd.V_far (p := ⟨gb315, 0, none⟩) (Kd.V_mono HO313.out (fun k_ hk => (⟨hk, hk.2⟩ : _ ∧ k_ ≠ gb315))) (fun _ hk => hk.2) (.int .i64 t310)) (fun _ hk => hk.2) (.slice Ao33 t311.length co33)) (fun _ h_ => h_.1))) (Kd.S_base ho0) hb); have n2_ := Aside0.mk (Kd.S_lower (Kd.S_new' ho0 (Kd.S_lt (by (with_reducible repeat (first | apply Kd.S_alloc | apply Kd.S_drewN | apply Kd.S_drew)); exact (Kd.S_mono (Kd.S_far (p := ⟨gb315, 1, none⟩) (Kd.S_far (p := ⟨gb315, 0, none⟩) (Kd.S_types HO_306001.out BK315.out (by decide)) (fun _ hk => hk.2) (.int .i64 t310)) (fun _ hk => hk.2) (.slice Ao33 t311.length co33)) (fun _ h_ => h_.1))))) (below_size (by repeat (first | (with_reducible first | exact HB.out | apply below_alloc | apply pw_below_drewN | apply below_drew1 | refine below_set ?_ GE305.out | refine below_set ?_ GE315.out) | exact HB.out)))); have n3_ := Aside0.mk (blk_below (g := gb305) (o := .cells #[.int .i64 x306000_1, .slice Ao28 x306001_1.length co28] 26 (0, 0)) (by (with_reducible repeat (first | refine blk_drewN ?_ _ | refine blk_drew ?_ | refine blk_alloc ?_ _)); refine blk_far ?_ NB305_315.out _; (with_reducible repeat (first | refine blk_drewN ?_ _ | refine blk_drew ?_ | refine blk_alloc ?_ _)); refine blk_far ?_ NB305_315.out _; (with_reducible repeat (first | refine blk_drewN ?_ _ | refine blk_drew ?_ | refine blk_alloc ?_ _)); exact BK305.out) hb); have n4_ := Aside0.mk (blk_below (g := gb315) (o := .cells #[.int .i64 t310, .slice Ao33 t311.length co33] 26 (0, 0)) (by (with_reducible repeat (first | refine blk_drewN ?_ _ | refine blk_drew ?_ | refine blk_alloc ?_ _)); refine blk_put (cs := #[.int .i64 t310, .slice none 0 0]) ?_ 1 _ rfl; (with_reducible repeat (first | refine blk_drewN ?_ _ | refine blk_drew ?_ | refine blk_alloc ?_ _)); refine blk_put (cs := #[.int .i64 0, .slice none 0 0]) ?_ 0 _ rfl; (with_reducible repeat (first | refine blk_drewN ?_ _ | refine blk_drew ?_ | refine blk_alloc ?_ _)); exact BK315.out) hb); have n5_ := Aside0.mk (below_step (by repeat (first | (with_reducible first | exact HB.out | apply below_alloc | apply pw_below_drewN | apply below_drew1 | refine below_set ?_ GE305.out | refine below_set ?_ GE315.out) | exact HB.out)) hb); clear HO_306001; clear HO313; clear BK305; clear BK315; clear HB; have HO_306001 := n0_; have HO313 := n1_; have HO319 := n2_; have BK305 := n3_; have BK315 := n4_; have HB := n5_; clear n0_ n1_ n2_ n3_ n4_ n5_; (try clear hb); (try clear hb2); (try clear hk); (try clear hi); (try clear ho0)) | ((with_reducible refine gate_dst (N := 9) rfl ?_); refine box_event ?hg (N := 9) ?hd (cs := #[.int .i64 0, .slice none 0 0]) (t := 26) ?hr ?_; (case hd => rfl); (case hg => rfl); (case hr => first | (go_simp; done) | (go_simp; rfl)); intro gb321 hg w36 hbox hb; have n0_ := Aside0.mk (Kd.S_below (by (with_reducible repeat (first | apply Kd.S_alloc | apply Kd.S_drewN | apply Kd.S_drew)); exact HO_306001.out) hb); have n1_ := Aside0.mk (Kd.V_below (Kd.V_elderB (by (with_reducible repeat (first | apply Kd.V_alloc | apply Kd.V_drewN | apply Kd.V_drew)); exact HO313.out) gb321 (Nat.le_of_eq hg.symm)) hb); have n2_ := Aside0.mk (Kd.S_below (by (with_reducible repeat (first | apply Kd.S_alloc | apply Kd.S_drewN | apply Kd.S_drew)); exact HO319.out) hb); have n3_ := Aside0.mk (blk_below (g := gb305) (o := .cells #[.int .i64 x306000_1, .slice Ao28 x306001_1.length co28] 26 (0, 0)) (by (with_reducible repeat (first | refine blk_drewN ?_ _ | refine blk_drew ?_ | refine blk_alloc ?_ _)); exact BK305.out) hb); have n4_ := Aside0.mk (blk_below (g := gb315) (o := .cells #[.int .i64 t310, .slice Ao33 t311.length co33] 26 (0, 0)) (by (with_reducible repeat (first | refine blk_drewN ?_ _ | refine blk_drew ?_ | refine blk_alloc ?_ _)); exact BK315.out) hb); have n5_ := Aside0.mk (below_step (by repeat (first | (with_reducible first | exact HB.out | apply below_alloc | apply pw_below_drewN | apply below_drew1 | refine below_set ?_ GE305.out | refine below_set ?_ GE315.out) | exact HB.out)) hb); have n6_ := Aside0.mk (hbox); have n7_ := Aside0.mk ((by rw [hg]; exact (below_size (by repeat (first | (with_reducible first | exact HB.out | apply below_alloc | apply pw_below_drewN | apply below_drew1 | refine below_set ?_ GE305.out | refine below_set ?_ GE315.out) | exact HB.out))) : w.heap.size ≤ gb321)); have n8_ := Aside0.mk ((by rw [hg]; exact (below_size (by repeat (first | (with_reducible first | exact HB.out | apply below_alloc | apply pw_below_drewN | apply below_drew1 | refine below_set ?_ GE305.out | refine below_set ?_ GE315.out) | exact HB.out))) : w.heap.size ≤ gb321)); have n9_ := Aside0.mk ((by rw [hg]; exact Nat.ne_of_lt (blk_lt (g := gb305) (o := .cells #[.int .i64 x306000_1, .slice Ao28 x306001_1.length co28] 26 (0, 0)) (by (with_reducible repeat (first | refine blk_drewN ?_ _ | refine blk_drew ?_ | refine blk_alloc ?_ _)); exact BK305.out)) : gb305 ≠ gb321)); have n10_ := Aside0.mk ((by rw [hg]; exact Nat.ne_of_gt (blk_lt (g := gb305) (o := .cells #[.int .i64 x306000_1, .slice Ao28 x306001_1.length co28] 26 (0, 0)) (by (with_reducible repeat (first | refine blk_drewN ?_ _ | refine blk_drew ?_ | refine blk_alloc ?_ _)); exact BK305.out)) : gb321 ≠ gb305)); have n11_ := Aside0.mk ((by rw [hg]; exact Nat.ne_of_lt (blk_lt (g := gb315) (o := .cells #[.int .i64 t310, .slice Ao33 t311.length co33] 26 (0, 0)) (by (with_reducible repeat (first | refine blk_drewN ?_ _ | refine blk_drew ?_ | refine blk_alloc ?_ _)); exact BK315.out)) : gb315 ≠ gb321)); have n12_ := Aside0.mk ((by rw [hg]; exact Nat.ne_of_gt (blk_lt (g := gb315) (o := .cells #[.int .i64 t310, .slice Ao33 t311.length co33] 26 (0, 0)) (by (with_reducible repeat (first | refine blk_drewN ?_ _ | refine blk_drew ?_ | refine blk_alloc ?_ _)); exact BK315.out)) : gb321 ≠ gb315)); clear HO_306001; clear HO313; clear HO319; clear BK305; clear BK315; clear HB; have HO_306001 := n0_; have HO313 := n1_; have HO319 := n2_; have BK305 := n3_; have BK315 := n4_; have HB := n5_; have BK321 := n6_; have GW321 := n7_; have GE321 := n8_; have NB305_321 := n9_; have NB321_305 := n10_; have NB315_321 := n11_; have NB321_315 := n12_; clear n0_ n1_ n2_ n3_ n4_ n5_ n6_ n7_ n8_ n9_ n10_ n11_ n12_; clear hb hbox hg; have hnb37 := NB321_305.out; have hnc37 := NB305_321.out; have hnb38 := NB321_315.out; have hnc38 := NB315_321.out; have hcz39_0 : w36.cell? ⟨gb321, 0, none⟩ = some (.int .i64 0) := (blk_cell BK321.out 0).trans rfl; have hcz39_1 : w36.cell? ⟨gb321, 1, none⟩ = some (.slice none 0 0) := (blk_cell BK321.out 1).trans rfl; have hfz39_0 := blk_frozen BK321.out 0; have hfz39_1 := blk_frozen BK321.out 1; obtain ⟨Ao40, co40, eo40⟩ := Kd.S_slice HO319.out; subst eo40; have hcz41_0 : w36.cell? ⟨gb305, 0, none⟩ = some (.int .i64 x306000_1) := (blk_cell BK305.out 0).trans rfl; have hcz41_1 : w36.cell? ⟨gb305, 1, none⟩ = some (.slice Ao28 x306001_1.length co28) := (blk_cell BK305.out 1).trans rfl; have hfz41_0 := blk_frozen BK305.out 0; have hfz41_1 := blk_frozen BK305.out 1) | ((with_reducible refine gate_callee (f := 16) rfl ?_); refine goesL_ (some 56) rfl rfl Tryd.func16 (by kernel_rfl) rfl #[.agg #[.int .i64 x306000_1, .slice Ao28 x306001_1.length co28]] rfl (by (try simp only [List.map_toArray, List.map_cons, List.map_nil]); first | done | rfl | (simp only [List.length_drop, List.length_take]; rfl)) ?_; (with_reducible refine (change_To.calls kj5 x306000_1 _ _ x306001_1 t322 t323 _ ?side1 ?side2 ?side3 A18.out).mono ?_); (case side1 => refine (Kd.S_reads' (e := 43) (base := w.heap.size) (ok := fun k_ => (True ∧ some k_ ≠ (.slice Ao40 t317.length co40 : Value).ownBlock)) (n := x306001_1.length) (c := co28) ?_).2.2; exact (by (with_reducible repeat (first | apply Kd.S_alloc | apply Kd.S_drewN | apply Kd.S_drew)); exact (Kd.S_mono (Kd.S_far (p := ⟨gb321, 1, none⟩) (Kd.S_far (p := ⟨gb321, 0, none⟩) (Kd.S_types HO_306001.out BK321.out (by decide)) (fun _ hk => hk.2) (.int .i64 t316)) (fun _ hk => hk.2) (.slice Ao40 t317.length co40)) (fun _ h_ => h_.1)))); (case side2 => exact (Kd.S_reads' HO_306001.out).2.1); (case side3 => exact Tabs.below HT_.out (by repeat (first | (with_reducible first | exact HB.out | apply below_alloc | apply pw_below_drewN | apply below_drew1 | refine below_set ?_ GE305.out | refine below_set ?_ GE315.out | refine below_set ?_ GE321.out) | exact HB.out))); rintro e w42 ⟨rfl, hb⟩; refine ⟨_, rfl, ?_⟩; have n0_ := Aside0.mk (Kd.S_below (by (with_reducible repeat (first | apply Kd.S_alloc | apply Kd.S_drewN | apply Kd.S_drew)); exact (Kd.S_mono (Kd.S_far (p := ⟨gb321, 1, none⟩) (Kd.S_far (p := ⟨gb321, 0, none⟩) (Kd.S_types HO_306001.out BK321.out (by decide)) (fun _ hk => hk.2) (.int .i64 t316)) (fun _ hk => hk.2) (.slice Ao40 t317.length co40)) (fun _ h_ => h_.1))) hb); have n1_ := Aside0.mk (Kd.V_below (by (with_reducible repeat (first | apply Kd.V_alloc | apply Kd.V_drewN | apply Kd.V_drew)); exact (Kd.V_mono (Kd.V_far (p := ⟨gb321, 1, none⟩) (Kd.V_far (p := ⟨gb321, 0, none⟩) (Kd.V_mono HO313.out (fun k_ hk => (⟨hk, hk.2⟩ : _ ∧ k_ ≠ gb321))) (fun _ hk => hk.2) (.int .i64 t316)) (fun _ hk => hk.2) (.slice Ao40 t317.length co40)) (fun _ h_ => h_.1))) hb); have n2_ := Aside0.mk (Kd.S_below (by (with_reducible repeat (first | apply Kd.S_alloc | apply Kd.S_drewN | apply Kd.S_drew)); exact (Kd.S_mono (Kd.S_far (p := ⟨gb321, 1, none⟩) (Kd.S_far (p := ⟨gb321, 0, none⟩) (Kd.S_types HO319.out BK321.out (by decide)) (fun _ hk => hk.2) (.int .i64 t316)) (fun _ hk => hk.2) (.slice Ao40 t317.length co40)) (fun _ h_ => h_.1))) hb); have n3_ := Aside0.mk (blk_below (g := gb305) (o := .cells #[.int .i64 x306000_1, .slice Ao28 x306001_1.length co28] 26 (0, 0)) (by (with_reducible repeat (first | refine blk_drewN ?_ _ | refine blk_drew ?_ | refine blk_alloc ?_ _)); refine blk_far ?_ NB305_321.out _; (with_reducible repeat (first | refine blk_drewN ?_ _ | refine blk_drew ?_ | refine blk_alloc ?_ _)); refine blk_far ?_ NB305_321.out _; (with_reducible repeat (first | refine blk_drewN ?_ _ | refine blk_drew ?_ | refine blk_alloc ?_ _)); exact BK305.out) hb); have n4_ := Aside0.mk (blk_below (g := gb315) (o := .cells #[.int .i64 t310, .slice Ao33 t311.length co33] 26 (0, 0)) (by (with_reducible repeat (first | refine blk_drewN ?_ _ | refine blk_drew ?_ | refine blk_alloc ?_ _)); refine blk_far ?_ NB315_321.out _; (with_reducible repeat (first | refine blk_drewN ?_ _ | refine blk_drew ?_ | refine blk_alloc ?_ _)); refine blk_far ?_ NB315_321.out _; (with_reducible repeat (first | refine blk_drewN ?_ _ | refine blk_drew ?_ | refine blk_alloc ?_ _)); exact BK315.out) hb); have n5_ := Aside0.mk (blk_below (g := gb321) (o := .cells #[.int .i64 t316, .slice Ao40 t317.length co40] 26 (0, 0)) (by (with_reducible repeat (first | refine blk_drewN ?_ _ | refine blk_drew ?_ | refine blk_alloc ?_ _)); refine blk_put (cs := #[.int .i64 t316, .slice none 0 0]) ?_ 1 _ rfl; (with_reducible repeat (first | refine blk_drewN ?_ _ | refine blk_drew ?_ | refine blk_alloc ?_ _)); refine blk_put (cs := #[.int .i64 0, .slice none 0 0]) ?_ 0 _ rfl; (with_reducible repeat (first | refine blk_drewN ?_ _ | refine blk_drew ?_ | refine blk_alloc ?_ _)); exact BK321.out) hb); have n6_ := Aside0.mk (below_step (by repeat (first | (with_reducible first | exact HB.out | apply below_alloc | apply pw_below_drewN | apply below_drew1 | refine below_set ?_ GE305.out | refine below_set ?_ GE315.out | refine below_set ?_ GE321.out) | exact HB.out)) hb); clear HO_306001; clear HO313; clear HO319; clear BK305; clear BK315; clear BK321; clear HB; have HO_306001 := n0_; have HO313 := n1_; have HO319 := n2_; have BK305 := n3_; have BK315 := n4_; have BK321 := n5_; have HB := n6_; clear n0_ n1_ n2_ n3_ n4_ n5_ n6_; (try clear hb); (try clear hb2); (try clear hk); (try clear hi); have hcz43_0 : w42.cell? ⟨gb305, 0, none⟩ = some (.int .i64 x306000_1) := (blk_cell BK305.out 0).trans rfl; have hcz43_1 : w42.cell? ⟨gb305, 1, none⟩ = some (.slice Ao28 x306001_1.length co28) := (blk_cell BK305.out 1).trans rfl; have hfz43_0 := blk_frozen BK305.out 0; have hfz43_1 := blk_frozen BK305.out 1; have hcz44_0 : w42.cell? ⟨gb315, 0, none⟩ = some (.int .i64 t310) := (blk_cell BK315.out 0).trans rfl; have hcz44_1 : w42.cell? ⟨gb315, 1, none⟩ = some (.slice Ao33 t311.length co33) := (blk_cell BK315.out 1).trans rfl; have hfz44_0 := blk_frozen BK315.out 0; have hfz44_1 := blk_frozen BK315.out 1; have hcz45_0 : w42.cell? ⟨gb321, 0, none⟩ = some (.int .i64 t316) := (blk_cell BK321.out 0).trans rfl; have hcz45_1 : w42.cell? ⟨gb321, 1, none⟩ = some (.slice Ao40 t317.length co40) := (blk_cell BK321.out 1).trans rfl; have hfz45_0 := blk_frozen BK321.out 0; have hfz45_1 := blk_frozen BK321.out 1) | (go_at_call 22; (with_reducible refine (change_Same.calls kj5 t310 _ _ t311 t316 _ _ t317 true _ ?side1 ?side2 ?side3 ?side4 A24.out).mono ?_); (case side1 => repeat (first | exact (Kd.V_reads' HO313.out).2.2 | (with_reducible refine Kd.C_alloc ?_ _) | (with_reducible refine Kd.C_drewN ?_ _) | (with_reducible refine Kd.C_drew ?_))); (case side2 => exact (Kd.V_reads' HO313.out).2.1); (case side3 => repeat (first | exact (Kd.S_reads' HO319.out).2.2 | (with_reducible refine Kd.C_alloc ?_ _) | (with_reducible refine Kd.C_drewN ?_ _) | (with_reducible refine Kd.C_drew ?_))); (case side4 => exact (Kd.S_reads' HO319.out).2.1); rintro e w46 ⟨rfl, hb⟩; have n0_ := Aside0.mk (Kd.S_below (by (with_reducible repeat (first | apply Kd.S_alloc | apply Kd.S_drewN | apply Kd.S_drew)); exact HO_306001.out) hb); have n1_ := Aside0.mk (Kd.V_below (by (with_reducible repeat (first | apply Kd.V_alloc | apply Kd.V_drewN | apply Kd.V_drew)); exact HO313.out) hb); have n2_ := Aside0.mk (Kd.S_below (by (with_reducible repeat (first | apply Kd.S_alloc | apply Kd.S_drewN | apply Kd.S_drew)); exact HO319.out) hb); have n3_ := Aside0.mk (blk_below (g := gb305) (o := .cells #[.int .i64 x306000_1, .slice Ao28 x306001_1.length co28] 26 (0, 0)) (by (with_reducible repeat (first | refine blk_drewN ?_ _ | refine blk_drew ?_ | refine blk_alloc ?_ _)); exact BK305.out) hb); have n4_ := Aside0.mk (blk_below (g := gb315) (o := .cells #[.int .i64 t310, .slice Ao33 t311.length co33] 26 (0, 0)) (by (with_reducible repeat (first | refine blk_drewN ?_ _ | refine blk_drew ?_ | refine blk_alloc ?_ _)); exact BK315.out) hb); have n5_ := Aside0.mk (blk_below (g := gb321) (o := .cells #[.int .i64 t316, .slice Ao40 t317.length co40] 26 (0, 0)) (by (with_reducible repeat (first | refine blk_drewN ?_ _ | refine blk_drew ?_ | refine blk_alloc ?_ _)); exact BK321.out) hb); have n6_ := Aside0.mk (below_step (by repeat (first | (with_reducible first | exact HB.out | apply below_alloc | apply pw_below_drewN | apply below_drew1 | refine below_set ?_ GE305.out | refine below_set ?_ GE315.out | refine below_set ?_ GE321.out) | exact HB.out)) hb); clear HO_306001; clear HO313; clear HO319; clear BK305; clear BK315; clear BK321; clear HB; have HO_306001 := n0_; have HO313 := n1_; have HO319 := n2_; have BK305 := n3_; have BK315 := n4_; have BK321 := n5_; have HB := n6_; clear n0_ n1_ n2_ n3_ n4_ n5_ n6_; (try clear hb); (try clear hb2); (try clear hk); (try clear hi); have hcz47_0 : w46.cell? ⟨gb321, 0, none⟩ = some (.int .i64 t316) := (blk_cell BK321.out 0).trans rfl; have hcz47_1 : w46.cell? ⟨gb321, 1, none⟩ = some (.slice Ao40 t317.length co40) := (blk_cell BK321.out 1).trans rfl; have hfz47_0 := blk_frozen BK321.out 0; have hfz47_1 := blk_frozen BK321.out 1) | (go_at_call 23; (with_reducible refine (change_Is.calls kj5 t316 _ _ t317 t325 _ ?side1 ?side2 ?side3 A26.out).mono ?_); (case side1 => repeat (first | exact (Kd.S_reads' HO319.out).2.2 | (with_reducible refine Kd.C_alloc ?_ _) | (with_reducible refine Kd.C_drewN ?_ _) | (with_reducible refine Kd.C_drew ?_))); (case side2 => exact (Kd.S_reads' HO319.out).2.1); (case side3 => exact Tabs.below HT_.out (by repeat (first | (with_reducible first | exact HB.out | apply below_alloc | apply pw_below_drewN | apply below_drew1 | refine below_set ?_ GE305.out | refine below_set ?_ GE315.out | refine below_set ?_ GE321.out) | exact HB.out))); rintro e w48 ⟨rfl, hb⟩; have n0_ := Aside0.mk (Kd.S_below (by (with_reducible repeat (first | apply Kd.S_alloc | apply Kd.S_drewN | apply Kd.S_drew)); exact HO_306001.out) hb); have n1_ := Aside0.mk (Kd.V_below (by (with_reducible repeat (first | apply Kd.V_alloc | apply Kd.V_drewN | apply Kd.V_drew)); exact HO313.out) hb); have n2_ := Aside0.mk (Kd.S_below (by (with_reducible repeat (first | apply Kd.S_alloc | apply Kd.S_drewN | apply Kd.S_drew)); exact HO319.out) hb); have n3_ := Aside0.mk (blk_below (g := gb305) (o := .cells #[.int .i64 x306000_1, .slice Ao28 x306001_1.length co28] 26 (0, 0)) (by (with_reducible repeat (first | refine blk_drewN ?_ _ | refine blk_drew ?_ | refine blk_alloc ?_ _)); exact BK305.out) hb); have n4_ := Aside0.mk (blk_below (g := gb315) (o := .cells #[.int .i64 t310, .slice Ao33 t311.length co33] 26 (0, 0)) (by (with_reducible repeat (first | refine blk_drewN ?_ _ | refine blk_drew ?_ | refine blk_alloc ?_ _)); exact BK315.out) hb); have n5_ := Aside0.mk (blk_below (g := gb321) (o := .cells #[.int .i64 t316, .slice Ao40 t317.length co40] 26 (0, 0)) (by (with_reducible repeat (first | refine blk_drewN ?_ _ | refine blk_drew ?_ | refine blk_alloc ?_ _)); exact BK321.out) hb); have n6_ := Aside0.mk (below_step (by repeat (first | (with_reducible first | exact HB.out | apply below_alloc | apply pw_below_drewN | apply below_drew1 | refine below_set ?_ GE305.out | refine below_set ?_ GE315.out | refine below_set ?_ GE321.out) | exact HB.out)) hb); clear HO_306001; clear HO313; clear HO319; clear BK305; clear BK315; clear BK321; clear HB; have HO_306001 := n0_; have HO313 := n1_; have HO319 := n2_; have BK305 := n3_; have BK315 := n4_; have BK321 := n5_; have HB := n6_; clear n0_ n1_ n2_ n3_ n4_ n5_ n6_; (try clear hb); (try clear hb2); (try clear hk); (try clear hi)))
                        go_ret
                        exact ⟨by first | rfl | (simp [ne_nil_b, eq_nil_b]; done) | (simp [errW_none, errW_some] <;> rfl) | (simp [*, errW_none, errW_some] <;> rfl), by repeat (first | (with_reducible first | exact HB.out | apply below_alloc | apply pw_below_drewN | apply below_drew1 | refine below_set ?_ GE305.out | refine below_set ?_ GE315.out | refine below_set ?_ GE321.out) | exact HB.out)⟩
                      · replace c25 := Bool.eq_false_iff.mpr c25
                        subst c25
                        have H1 : (none) = some r := by rw [if_neg (show ¬ (false = true) by decide)] at H; exact H
                        clear H
                        have H := H1
                        clear H1
                        exact absurd H (by simp)
                    · rw [if_neg c23] at H
                      exact absurd H (by simp)
                  · rw [if_neg c22] at H
                    exact absurd H (by simp)
                · rw [if_neg c21] at H
                  exact absurd H (by simp)
              · rw [if_neg c20] at H
                exact absurd H (by simp)
            · replace c19 := Bool.eq_false_iff.mpr c19
              subst c19
              have H1 : (none) = some r := by rw [if_neg (show ¬ (false = true) by decide)] at H; exact H
              clear H
              have H := H1
              clear H1
              exact absurd H (by simp)
def change_Clone.l0 : Nat → List (S43) → Int → Int → Int → List (S43) → Option (Int × (List (S43)))
  | 0, _, _, _, _, _ => none
  | k + 1, x10, x11, x12, x329000, x329001 => if x12 < x11 then (if 0 ≤ x12 then (if x12 < (x10.length : Int) then (if ([] : List (S90)).length + ((rd_T43 x10 x12).f3).length < 4398046511104 then (if x329001.length < 2513169434916 then (change_Clone.l0 k x10 x11 (wrap64 (x12 + 1)) x329000 (x329001 ++ [(⟨(rd_T43 x10 x12).f0, (rd_T43 x10 x12).f1, (rd_T43 x10 x12).f2, (([] : List (S90)) ++ ((rd_T43 x10 x12).f3))⟩ : S43)])) else (none)) else (none)) else (none)) else (none)) else (some (x329000, x329001))
def change_Clone.f (k : Nat) (a0_0 : Int) (l0_1 : List (S43)) : Option (Int × (List (S43))) := change_Clone.l0 k l0_1 (l0_1.length : Int) 0 a0_0 ([] : List (S43))
theorem change_Clone.mono_l : ∀ k, (∀ y0 y1 y2 y3 y4, LeO (change_Clone.l0 k y0 y1 y2 y3 y4) (change_Clone.l0 (k + 1) y0 y1 y2 y3 y4))
  | 0 => fun _ _ _ _ _ r h => by simp [change_Clone.l0] at h
  | k + 1 => by
    have ih0 := change_Clone.mono_l k
    · intro y0 y1 y2 y3 y4
      unfold change_Clone.l0
      repeat' first
      | (with_reducible exact ih0 _ _ _ _ _)
      | (with_reducible exact LeO.refl _)
      | (with_reducible exact LeO.none _)
      | (with_reducible refine LeO.ite ?_ ?_)
      | (with_reducible refine LeO.bind ?_ (fun _ => ?_))
      | exact ih0 _ _ _ _ _
      | exact LeO.none _
      | refine LeO.ite ?_ ?_
      | refine LeO.bind ?_ (fun _ => ?_)
theorem change_Clone.mono : ∀ a0 a1 k, LeO (change_Clone.f k a0 a1) (change_Clone.f (k + 1) a0 a1) := by
  intro a0 a1 k
  have ih0 := change_Clone.mono_l k
  unfold change_Clone.f
  repeat' first
      | (with_reducible exact ih0 _ _ _ _ _)
      | (with_reducible exact LeO.refl _)
      | (with_reducible exact LeO.none _)
      | (with_reducible refine LeO.ite ?_ ?_)
      | (with_reducible refine LeO.bind ?_ (fun _ => ?_))
      | exact ih0 _ _ _ _ _
      | exact LeO.none _
      | refine LeO.ite ?_ ?_
      | refine LeO.bind ?_ (fun _ => ?_)
set_option maxHeartbeats 8000000 in
set_option maxRecDepth 100000 in
theorem change_Clone.calls (k : Nat) (a0_0 : Int) (A0_1 : Option Addr) (c0_1 : Nat) (l0_1 : List (S43)) (r1 : Int) (r2 : List (S43)) (w : World) (hr0_1 : Kd.C k43 w A0_1 l0_1.length l0_1) (hc0_1 : l0_1.length ≤ c0_1) (h : change_Clone.f k a0_0 l0_1 = some (r1, r2)) :
    Calls Tryd.prog 30 #[.agg #[.int .i64 a0_0, .slice A0_1 l0_1.length c0_1]] w fun e w' => ∃ v1_ : Value, e = .returned (.agg #[.int .i64 r1, v1_]) ∧ Kd.S k43 43 w' w.heap.size (fun _ => True) v1_ r2 ∧ Below w.heap.size w w' := by
  have hu26 := Tryd.underlying26
  have hu43 := Tryd.underlying43
  have HR0_1 := Aside0.mk hr0_1
  have HC0_1 := Aside0.mk hc0_1
  clear hr0_1 hc0_1
  have HB := Aside0.mk (Below.refl w.heap.size w)
  have H : (change_Clone.l0 k l0_1 (l0_1.length : Int) 0 a0_0 ([] : List (S43))) = some (r1, r2) := h
  clear h
  have H' := Aside0.mk H
  clear H
  go_enter Tryd.func30, Tryd.ntmps30
  go_wp2_with (first | ((with_reducible refine gate_dst (N := 1) rfl ?_); refine box_event ?hg (N := 1) ?hd (cs := #[.int .i64 a0_0, .slice A0_1 l0_1.length c0_1]) (t := 26) ?hr ?_; (case hd => rfl); (case hg => rfl); (case hr => first | (go_simp; done) | (go_simp; rfl)); intro gb326 hg w2 hbox hb; have n0_ := Aside0.mk (below_step (by repeat (first | (with_reducible first | exact HB.out | apply below_alloc | apply pw_below_drewN | apply below_drew1) | exact HB.out)) hb); have n1_ := Aside0.mk (hbox); have n2_ := Aside0.mk ((by rw [hg]; exact (below_size (by repeat (first | (with_reducible first | exact HB.out | apply below_alloc | apply pw_below_drewN | apply below_drew1) | exact HB.out))) : w.heap.size ≤ gb326)); have n3_ := Aside0.mk ((by rw [hg]; exact (below_size (by repeat (first | (with_reducible first | exact HB.out | apply below_alloc | apply pw_below_drewN | apply below_drew1) | exact HB.out))) : w.heap.size ≤ gb326)); clear HB; have HB := n0_; have BK326 := n1_; have GW326 := n2_; have GE326 := n3_; clear n0_ n1_ n2_ n3_; clear hb hbox hg) | ((with_reducible refine gate_dst (N := 2) rfl ?_); refine box_event ?hg (N := 2) ?hd (cs := #[.int .i64 0, .slice none 0 0]) (t := 26) ?hr ?_; (case hd => rfl); (case hg => rfl); (case hr => first | (go_simp; done) | (go_simp; rfl)); intro gb327 hg w3 hbox hb; have n0_ := Aside0.mk (blk_below (g := gb326) (o := .cells #[.int .i64 a0_0, .slice A0_1 l0_1.length c0_1] 26 (0, 0)) (by (with_reducible repeat (first | refine blk_drewN ?_ _ | refine blk_drew ?_ | refine blk_alloc ?_ _)); exact BK326.out) hb); have n1_ := Aside0.mk (below_step (by repeat (first | (with_reducible first | exact HB.out | apply below_alloc | apply pw_below_drewN | apply below_drew1 | refine below_set ?_ GE326.out) | exact HB.out)) hb); have n2_ := Aside0.mk (hbox); have n3_ := Aside0.mk ((by rw [hg]; exact (below_size (by repeat (first | (with_reducible first | exact HB.out | apply below_alloc | apply pw_below_drewN | apply below_drew1 | refine below_set ?_ GE326.out) | exact HB.out))) : w.heap.size ≤ gb327)); have n4_ := Aside0.mk ((by rw [hg]; exact (below_size (by repeat (first | (with_reducible first | exact HB.out | apply below_alloc | apply pw_below_drewN | apply below_drew1 | refine below_set ?_ GE326.out) | exact HB.out))) : w.heap.size ≤ gb327)); have n5_ := Aside0.mk ((by rw [hg]; exact Nat.ne_of_lt (blk_lt (g := gb326) (o := .cells #[.int .i64 a0_0, .slice A0_1 l0_1.length c0_1] 26 (0, 0)) (by (with_reducible repeat (first | refine blk_drewN ?_ _ | refine blk_drew ?_ | refine blk_alloc ?_ _)); exact BK326.out)) : gb326 ≠ gb327)); have n6_ := Aside0.mk ((by rw [hg]; exact Nat.ne_of_gt (blk_lt (g := gb326) (o := .cells #[.int .i64 a0_0, .slice A0_1 l0_1.length c0_1] 26 (0, 0)) (by (with_reducible repeat (first | refine blk_drewN ?_ _ | refine blk_drew ?_ | refine blk_alloc ?_ _)); exact BK326.out)) : gb327 ≠ gb326)); clear BK326; clear HB; have BK326 := n0_; have HB := n1_; have BK327 := n2_; have GW327 := n3_; have GE327 := n4_; have NB326_327 := n5_; have NB327_326 := n6_; clear n0_ n1_ n2_ n3_ n4_ n5_ n6_; clear hb hbox hg; have hnb4 := NB326_327.out; have hnc4 := NB327_326.out; have hcz5_0 : w3.cell? ⟨gb326, 0, none⟩ = some (.int .i64 a0_0) := (blk_cell BK326.out 0).trans rfl; have hcz5_1 : w3.cell? ⟨gb326, 1, none⟩ = some (.slice A0_1 l0_1.length c0_1) := (blk_cell BK326.out 1).trans rfl; have hfz5_0 := blk_frozen BK326.out 0; have hfz5_1 := blk_frozen BK326.out 1) | ((with_reducible refine gate_dst (N := 3) rfl ?_); refine box_event ?hg (N := 3) ?hd (cs := #[.int .i64 0, .slice none 0 0]) (t := 26) ?hr ?_; (case hd => rfl); (case hg => rfl); (case hr => first | (go_simp; done) | (go_simp; rfl)); intro gb328 hg w6 hbox hb; have n0_ := Aside0.mk (blk_below (g := gb326) (o := .cells #[.int .i64 a0_0, .slice A0_1 l0_1.length c0_1] 26 (0, 0)) (by (with_reducible repeat (first | refine blk_drewN ?_ _ | refine blk_drew ?_ | refine blk_alloc ?_ _)); exact BK326.out) hb); have n1_ := Aside0.mk (blk_below (g := gb327) (o := .cells #[.int .i64 0, .slice none 0 0] 26 (0, 0)) (by (with_reducible repeat (first | refine blk_drewN ?_ _ | refine blk_drew ?_ | refine blk_alloc ?_ _)); exact BK327.out) hb); have n2_ := Aside0.mk (below_step (by repeat (first | (with_reducible first | exact HB.out | apply below_alloc | apply pw_below_drewN | apply below_drew1 | refine below_set ?_ GE326.out | refine below_set ?_ GE327.out) | exact HB.out)) hb); have n3_ := Aside0.mk (hbox); have n4_ := Aside0.mk ((by rw [hg]; exact (below_size (by repeat (first | (with_reducible first | exact HB.out | apply below_alloc | apply pw_below_drewN | apply below_drew1 | refine below_set ?_ GE326.out | refine below_set ?_ GE327.out) | exact HB.out))) : w.heap.size ≤ gb328)); have n5_ := Aside0.mk ((by rw [hg]; exact (below_size (by repeat (first | (with_reducible first | exact HB.out | apply below_alloc | apply pw_below_drewN | apply below_drew1 | refine below_set ?_ GE326.out | refine below_set ?_ GE327.out) | exact HB.out))) : w.heap.size ≤ gb328)); have n6_ := Aside0.mk ((by rw [hg]; exact Nat.ne_of_lt (blk_lt (g := gb326) (o := .cells #[.int .i64 a0_0, .slice A0_1 l0_1.length c0_1] 26 (0, 0)) (by (with_reducible repeat (first | refine blk_drewN ?_ _ | refine blk_drew ?_ | refine blk_alloc ?_ _)); exact BK326.out)) : gb326 ≠ gb328)); have n7_ := Aside0.mk ((by rw [hg]; exact Nat.ne_of_gt (blk_lt (g := gb326) (o := .cells #[.int .i64 a0_0, .slice A0_1 l0_1.length c0_1] 26 (0, 0)) (by (with_reducible repeat (first | refine blk_drewN ?_ _ | refine blk_drew ?_ | refine blk_alloc ?_ _)); exact BK326.out)) : gb328 ≠ gb326)); have n8_ := Aside0.mk ((by rw [hg]; exact Nat.ne_of_lt (blk_lt (g := gb327) (o := .cells #[.int .i64 0, .slice none 0 0] 26 (0, 0)) (by (with_reducible repeat (first | refine blk_drewN ?_ _ | refine blk_drew ?_ | refine blk_alloc ?_ _)); exact BK327.out)) : gb327 ≠ gb328)); have n9_ := Aside0.mk ((by rw [hg]; exact Nat.ne_of_gt (blk_lt (g := gb327) (o := .cells #[.int .i64 0, .slice none 0 0] 26 (0, 0)) (by (with_reducible repeat (first | refine blk_drewN ?_ _ | refine blk_drew ?_ | refine blk_alloc ?_ _)); exact BK327.out)) : gb328 ≠ gb327)); clear BK326; clear BK327; clear HB; have BK326 := n0_; have BK327 := n1_; have HB := n2_; have BK328 := n3_; have GW328 := n4_; have GE328 := n5_; have NB326_328 := n6_; have NB328_326 := n7_; have NB327_328 := n8_; have NB328_327 := n9_; clear n0_ n1_ n2_ n3_ n4_ n5_ n6_ n7_ n8_ n9_; clear hb hbox hg; have hnb7 := NB328_326.out; have hnc7 := NB326_328.out; have hnb8 := NB328_327.out; have hnc8 := NB327_328.out; have hcz9_0 : w6.cell? ⟨gb328, 0, none⟩ = some (.int .i64 0) := (blk_cell BK328.out 0).trans rfl; have hcz9_1 : w6.cell? ⟨gb328, 1, none⟩ = some (.slice none 0 0) := (blk_cell BK328.out 1).trans rfl; have hfz9_0 := blk_frozen BK328.out 0; have hfz9_1 := blk_frozen BK328.out 1; have hcz10_0 : w6.cell? ⟨gb326, 0, none⟩ = some (.int .i64 a0_0) := (blk_cell BK326.out 0).trans rfl; have hcz10_1 : w6.cell? ⟨gb326, 1, none⟩ = some (.slice A0_1 l0_1.length c0_1) := (blk_cell BK326.out 1).trans rfl; have hfz10_0 := blk_frozen BK326.out 0; have hfz10_1 := blk_frozen BK326.out 1))
  go_loopg [12] k (fun kq v12 w' => ∃ (x12_1 : Int) (x329001_1 : List (S43)) (u329001 : Value), v12 = .int .i64 x12_1 ∧ Aside0 (change_Clone.l0 kq l0_1 (l0_1.length : Int) x12_1 a0_0 x329001_1 = some (r1, r2)) ∧ Aside0 (kq ≤ k) ∧ Aside0 (Kd.S k43 43 w' w.heap.size (fun _ => True) u329001 x329001_1) ∧ Aside0 (w'.heap[gb326]? = some (.cells #[.int .i64 a0_0, (.slice A0_1 l0_1.length c0_1)] 26 (0, 0))) ∧ Aside0 (w'.heap[gb327]? = some (.cells #[.int .i64 0, (.slice none 0 0)] 26 (0, 0))) ∧ Aside0 (w'.heap[gb328]? = some (.cells #[.int .i64 a0_0, u329001] 26 (0, 0))) ∧ Aside0 (Below w.heap.size w w'))
  case atStart => exact ⟨(0), (([] : List (S43))), (.slice none 0 0), (by first | rfl | (simp; done) | (simp [*]; done)), H', ⟨Nat.le_refl _⟩, ⟨by first | exact Kd.S_nil _ _ _ _ _ | exact Kd.N_nil _ _ _ _ _ | exact Kd.V_nil _ _ _ _ _ | exact Kd.Q_nil _ _ _ _ _ | exact Kd.R_nil _ _ _ _ _⟩, ⟨by (with_reducible repeat (first | refine blk_drewN ?_ _ | refine blk_drew ?_ | refine blk_alloc ?_ _)); refine blk_far ?_ NB326_328.out _; (with_reducible repeat (first | refine blk_drewN ?_ _ | refine blk_drew ?_ | refine blk_alloc ?_ _)); refine blk_far ?_ NB326_328.out _; (with_reducible repeat (first | refine blk_drewN ?_ _ | refine blk_drew ?_ | refine blk_alloc ?_ _)); exact BK326.out⟩, ⟨by (with_reducible repeat (first | refine blk_drewN ?_ _ | refine blk_drew ?_ | refine blk_alloc ?_ _)); refine blk_far ?_ NB327_328.out _; (with_reducible repeat (first | refine blk_drewN ?_ _ | refine blk_drew ?_ | refine blk_alloc ?_ _)); refine blk_far ?_ NB327_328.out _; (with_reducible repeat (first | refine blk_drewN ?_ _ | refine blk_drew ?_ | refine blk_alloc ?_ _)); exact BK327.out⟩, ⟨by (with_reducible repeat (first | refine blk_drewN ?_ _ | refine blk_drew ?_ | refine blk_alloc ?_ _)); refine blk_put (cs := #[.int .i64 a0_0, .slice none 0 0]) ?_ 1 _ rfl; (with_reducible repeat (first | refine blk_drewN ?_ _ | refine blk_drew ?_ | refine blk_alloc ?_ _)); refine blk_put (cs := #[.int .i64 0, .slice none 0 0]) ?_ 0 _ rfl; (with_reducible repeat (first | refine blk_drewN ?_ _ | refine blk_drew ?_ | refine blk_alloc ?_ _)); exact BK328.out⟩, ⟨by repeat (first | (with_reducible first | exact HB.out | apply below_alloc | apply pw_below_drewN | apply below_drew1 | refine below_set ?_ GE326.out | refine below_set ?_ GE327.out | refine below_set ?_ GE328.out) | exact HB.out)⟩⟩
  case round =>
    clear H'
    try clear p2
    try clear c3
    try clear c4
    try clear c7
    try clear c8
    try clear hcz10_0
    try clear hcz10_1
    try clear hcz5_0
    try clear hcz5_1
    try clear hcz9_0
    try clear hcz9_1
    try clear hfz10_0
    try clear hfz10_1
    try clear hfz5_0
    try clear hfz5_1
    try clear hfz9_0
    try clear hfz9_1
    obtain ⟨x12_1, x329001_1, u329001, rfl, HA, HK1, HO_329001, BK326, BK327, BK328, HB⟩ := hrel
    cases gk with
    | zero => exact absurd HA.out (by simp [change_Clone.l0])
    | succ k1 =>
      have H := HA.out
      clear HA
      simp only [change_Clone.l0] at H
      by_cases c11 : x12_1 < (l0_1.length : Int)
      · rw [if_pos c11] at H
        have c11b0 : decide (x12_1 < (l0_1.length : Int)) = true := decide_eq_true c11
        clear c11
        by_cases c12 : 0 ≤ x12_1
        · rw [if_pos c12] at H
          have c12b0 : decide (0 ≤ x12_1) = true := decide_eq_true c12
          clear c12
          by_cases c13 : x12_1 < (l0_1.length : Int)
          · rw [if_pos c13] at H
            have c13b0 : decide (x12_1 < (l0_1.length : Int)) = true := decide_eq_true c13
            clear c13
            by_cases c14 : ([] : List (S90)).length + ((rd_T43 l0_1 x12_1).f3).length < 4398046511104
            · rw [if_pos c14] at H
              have LMc14 := Aside0.mk c14
              clear c14
              obtain ⟨y331, hy331⟩ : ∃ y_ : List (S90), y_ = (([] : List (S90)) ++ ((rd_T43 l0_1 x12_1).f3)) := ⟨_, rfl⟩
              replace H : (if x329001_1.length < 2513169434916 then (change_Clone.l0 k1 l0_1 (l0_1.length : Int) (wrap64 (x12_1 + 1)) a0_0 (x329001_1 ++ [(⟨(rd_T43 l0_1 x12_1).f0, (rd_T43 l0_1 x12_1).f1, (rd_T43 l0_1 x12_1).f2, y331⟩ : S43)])) else (none)) = some (r1, r2) := by first | (rw [hy331]; with_reducible exact H) | (have H2_ := (Option.bind_some _ _).symm.trans H; rw [hy331]; with_reducible exact H2_) | (have H2_ := (Option.bind_some _ _).symm.trans H; with_reducible exact H2_) | with_reducible exact H | (rw [hy331]; exact H) | exact H
              have Ny331 := Aside0.mk hy331
              clear hy331
              by_cases c15 : x329001_1.length < 2513169434916
              · rw [if_pos c15] at H
                have LMc15 := Aside0.mk c15
                clear c15
                obtain ⟨y334, hy334⟩ : ∃ y_ : List (S43), y_ = (x329001_1 ++ [(⟨(rd_T43 l0_1 x12_1).f0, (rd_T43 l0_1 x12_1).f1, (rd_T43 l0_1 x12_1).f2, y331⟩ : S43)]) := ⟨_, rfl⟩
                replace H : (change_Clone.l0 k1 l0_1 (l0_1.length : Int) (wrap64 (x12_1 + 1)) a0_0 y334) = some (r1, r2) := by first | (rw [hy334]; with_reducible exact H) | (have H2_ := (Option.bind_some _ _).symm.trans H; rw [hy334]; with_reducible exact H2_) | (have H2_ := (Option.bind_some _ _).symm.trans H; with_reducible exact H2_) | with_reducible exact H | (rw [hy334]; exact H) | exact H
                have Ny334 := Aside0.mk hy334
                clear hy334
                have H' := Aside0.mk H
                clear H
                have p329 : 0 ≤ (x12_1 : Int) := of_decide_eq_true (by first | (with_reducible assumption) | assumption)
                have q329 : x12_1 < (l0_1.length : Int) := of_decide_eq_true (by first | (with_reducible assumption) | assumption)
                obtain ⟨ad329, A329_3, c329_3, e329, hx329_0, hx329_1, hx329_2, hx329_3, hl329_3, hi329_3⟩ := at_T43 HR0_1.out x12_1 p329 q329
                cases e329
                replace hx329_0 := (HB.out.cell (World.block_lt_of_cell? w _ hx329_0)).trans hx329_0
                replace hx329_1 := (HB.out.cell (World.block_lt_of_cell? w _ hx329_1)).trans hx329_1
                replace hx329_2 := (HB.out.cell (World.block_lt_of_cell? w _ hx329_2)).trans hx329_2
                replace hx329_3 := (HB.out.cell (World.block_lt_of_cell? w _ hx329_3)).trans hx329_3
                have HR329_3 := Aside0.mk hi329_3
                have HC329_3 := Aside0.mk hl329_3
                clear hi329_3 hl329_3
                replace p329 := eq_true p329
                replace q329 := eq_true q329
                go_wp2_with (first | ((with_reducible refine gate_dst (N := 5) rfl ?_); refine box_event ?hg (N := 5) ?hd (cs := #[.int .i64 0, .int .i64 0, .string (⟨#[]⟩ : ByteArray), .slice none 0 0]) (t := 43) ?hr ?_; (case hd => rfl); (case hg => rfl); (case hr => first | (go_simp; done) | (go_simp; rfl)); intro gb330 hg w16 hbox hb; have n0_ := Aside0.mk (Kd.S_below (Kd.S_elderB (by (with_reducible repeat (first | apply Kd.S_alloc | apply Kd.S_drewN | apply Kd.S_drew)); exact HO_329001.out) gb330 (Nat.le_of_eq hg.symm)) hb); have n1_ := Aside0.mk (blk_below (g := gb326) (o := .cells #[.int .i64 a0_0, .slice (some ad329) l0_1.length c0_1] 26 (0, 0)) (by (with_reducible repeat (first | refine blk_drewN ?_ _ | refine blk_drew ?_ | refine blk_alloc ?_ _)); exact BK326.out) hb); have n2_ := Aside0.mk (blk_below (g := gb327) (o := .cells #[.int .i64 0, .slice none 0 0] 26 (0, 0)) (by (with_reducible repeat (first | refine blk_drewN ?_ _ | refine blk_drew ?_ | refine blk_alloc ?_ _)); exact BK327.out) hb); have n3_ := Aside0.mk (blk_below (g := gb328) (o := .cells #[.int .i64 a0_0, u329001] 26 (0, 0)) (by (with_reducible repeat (first | refine blk_drewN ?_ _ | refine blk_drew ?_ | refine blk_alloc ?_ _)); exact BK328.out) hb); have n4_ := Aside0.mk (below_step (by repeat (first | (with_reducible first | exact HB.out | apply below_alloc | apply pw_below_drewN | apply below_drew1 | refine below_set ?_ GE326.out | refine below_set ?_ GE327.out | refine below_set ?_ GE328.out) | exact HB.out)) hb); have n5_ := Aside0.mk (hbox); have n6_ := Aside0.mk ((by rw [hg]; exact (below_size (by repeat (first | (with_reducible first | exact HB.out | apply below_alloc | apply pw_below_drewN | apply below_drew1 | refine below_set ?_ GE326.out | refine below_set ?_ GE327.out | refine below_set ?_ GE328.out) | exact HB.out))) : w.heap.size ≤ gb330)); have n7_ := Aside0.mk ((by rw [hg]; exact (below_size (by repeat (first | (with_reducible first | exact HB.out | apply below_alloc | apply pw_below_drewN | apply below_drew1 | refine below_set ?_ GE326.out | refine below_set ?_ GE327.out | refine below_set ?_ GE328.out) | exact HB.out))) : w.heap.size ≤ gb330)); have n8_ := Aside0.mk ((by rw [hg]; exact Nat.ne_of_lt (blk_lt (g := gb326) (o := .cells #[.int .i64 a0_0, .slice (some ad329) l0_1.length c0_1] 26 (0, 0)) (by (with_reducible repeat (first | refine blk_drewN ?_ _ | refine blk_drew ?_ | refine blk_alloc ?_ _)); exact BK326.out)) : gb326 ≠ gb330)); have n9_ := Aside0.mk ((by rw [hg]; exact Nat.ne_of_gt (blk_lt (g := gb326) (o := .cells #[.int .i64 a0_0, .slice (some ad329) l0_1.length c0_1] 26 (0, 0)) (by (with_reducible repeat (first | refine blk_drewN ?_ _ | refine blk_drew ?_ | refine blk_alloc ?_ _)); exact BK326.out)) : gb330 ≠ gb326)); have n10_ := Aside0.mk ((by rw [hg]; exact Nat.ne_of_lt (blk_lt (g := gb327) (o := .cells #[.int .i64 0, .slice none 0 0] 26 (0, 0)) (by (with_reducible repeat (first | refine blk_drewN ?_ _ | refine blk_drew ?_ | refine blk_alloc ?_ _)); exact BK327.out)) : gb327 ≠ gb330)); have n11_ := Aside0.mk ((by rw [hg]; exact Nat.ne_of_gt (blk_lt (g := gb327) (o := .cells #[.int .i64 0, .slice none 0 0] 26 (0, 0)) (by (with_reducible repeat (first | refine blk_drewN ?_ _ | refine blk_drew ?_ | refine blk_alloc ?_ _)); exact BK327.out)) : gb330 ≠ gb327)); have n12_ := Aside0.mk ((by rw [hg]; exact Nat.ne_of_lt (blk_lt (g := gb328) (o := .cells #[.int .i64 a0_0, u329001] 26 (0, 0)) (by (with_reducible repeat (first | refine blk_drewN ?_ _ | refine blk_drew ?_ | refine blk_alloc ?_ _)); exact BK328.out)) : gb328 ≠ gb330)); have n13_ := Aside0.mk ((by rw [hg]; exact Nat.ne_of_gt (blk_lt (g := gb328) (o := .cells #[.int .i64 a0_0, u329001] 26 (0, 0)) (by (with_reducible repeat (first | refine blk_drewN ?_ _ | refine blk_drew ?_ | refine blk_alloc ?_ _)); exact BK328.out)) : gb330 ≠ gb328)); clear HO_329001; clear BK326; clear BK327; clear BK328; clear HB; have HO_329001 := n0_; have BK326 := n1_; have BK327 := n2_; have BK328 := n3_; have HB := n4_; have BK330 := n5_; have GW330 := n6_; have GE330 := n7_; have NB326_330 := n8_; have NB330_326 := n9_; have NB327_330 := n10_; have NB330_327 := n11_; have NB328_330 := n12_; have NB330_328 := n13_; clear n0_ n1_ n2_ n3_ n4_ n5_ n6_ n7_ n8_ n9_ n10_ n11_ n12_ n13_; clear hb hbox hg; have hnb17 := NB330_326.out; have hnc17 := NB326_330.out; have hnb18 := NB330_327.out; have hnc18 := NB327_330.out; have hnb19 := NB330_328.out; have hnc19 := NB328_330.out; have hcz20_0 : w16.cell? ⟨gb330, 0, none⟩ = some (.int .i64 0) := (blk_cell BK330.out 0).trans rfl; have hcz20_1 : w16.cell? ⟨gb330, 1, none⟩ = some (.int .i64 0) := (blk_cell BK330.out 1).trans rfl; have hcz20_2 : w16.cell? ⟨gb330, 2, none⟩ = some (.string (⟨#[]⟩ : ByteArray)) := (blk_cell BK330.out 2).trans rfl; have hcz20_3 : w16.cell? ⟨gb330, 3, none⟩ = some (.slice none 0 0) := (blk_cell BK330.out 3).trans rfl; have hfz20_0 := blk_frozen BK330.out 0; have hfz20_1 := blk_frozen BK330.out 1; have hfz20_2 := blk_frozen BK330.out 2; have hfz20_3 := blk_frozen BK330.out 3) | ((with_reducible refine gate_builtin (b := .append) (xs := #[.const (.slice none 0 0), .tmp 17]) rfl ?_); at_builtin; refine Kd.R_append_rows k90 (w0 := w) w.heap.size rfl (.const (.slice none 0 0)) (.tmp 17) 41 90 (.agg #[(.string ⟨#[]⟩), (.string ⟨#[]⟩)]) 32 rfl Tryd.underlying41 info90 rfl (by decide) (by omega) (.slice none 0 0) ([] : List (S90)) ((rd_T43 l0_1 x12_1).f3) _ _ _ (fun _ => True) (fun _ => False) rfl rfl ?aO ?aR (fun _ _ h => h) (fun _ h => h.elim) ?aF ?aB ?aS ?aL ?_; (case aR => exact Kd.C_below HR329_3.out (by repeat (first | (with_reducible first | exact HB.out | apply below_alloc | apply pw_below_drewN | apply below_drew1 | refine below_set ?_ GE326.out | refine below_set ?_ GE327.out | refine below_set ?_ GE328.out | refine below_set ?_ GE330.out) | exact HB.out))); (case aB => exact (by repeat (first | (with_reducible first | exact HB.out | apply below_alloc | apply pw_below_drewN | apply below_drew1 | refine below_set ?_ GE326.out | refine below_set ?_ GE327.out | refine below_set ?_ GE328.out | refine below_set ?_ GE330.out) | exact HB.out))); (case aF => exact (fun _ _ => trivial)); (case aO => exact ((Kd.R_nil _ _ _ _ (fun _ => True)))); (case aS => exact (below_size (by repeat (first | (with_reducible first | exact HB.out | apply below_alloc | apply pw_below_drewN | apply below_drew1 | refine below_set ?_ GE326.out | refine below_set ?_ GE327.out | refine below_set ?_ GE328.out | refine below_set ?_ GE330.out) | exact HB.out)))); (case aL => have := LMc14.out; omega); intro v332 w21 ho hb hg hat; rw [← Ny331.out] at ho; have n0_ := Aside0.mk (Kd.S_after (Kd.S_apart_nil (by (with_reducible repeat (first | apply Kd.S_alloc | apply Kd.S_drewN | apply Kd.S_drew)); exact (Kd.S_mono (Kd.S_far (p := ⟨gb330, 3, none⟩) (Kd.S_far (p := ⟨gb330, 2, none⟩) (Kd.S_far (p := ⟨gb330, 1, none⟩) (Kd.S_far (p := ⟨gb330, 0, none⟩) (Kd.S_mono HO_329001.out (fun k_ hk => (⟨hk, hk.2⟩ : _ ∧ k_ ≠ gb330))) (fun _ hk => hk.2) (.int .i64 ((rd_T43 l0_1 x12_1).f0))) (fun _ hk => hk.2) (.int .i64 ((rd_T43 l0_1 x12_1).f1))) (fun _ hk => hk.2) (.string ((rd_T43 l0_1 x12_1).f2))) (fun _ hk => hk.2) (.slice A329_3 ((rd_T43 l0_1 x12_1).f3).length c329_3)) (fun _ h_ => h_.1)))) hg hat); have n1_ := Aside0.mk (blk_grown (g := gb326) (o := .cells #[.int .i64 a0_0, .slice (some ad329) l0_1.length c0_1] 26 (0, 0)) (by (with_reducible repeat (first | refine blk_drewN ?_ _ | refine blk_drew ?_ | refine blk_alloc ?_ _)); refine blk_far ?_ NB326_330.out _; (with_reducible repeat (first | refine blk_drewN ?_ _ | refine blk_drew ?_ | refine blk_alloc ?_ _)); refine blk_far ?_ NB326_330.out _; (with_reducible repeat (first | refine blk_drewN ?_ _ | refine blk_drew ?_ | refine blk_alloc ?_ _)); refine blk_far ?_ NB326_330.out _; (with_reducible repeat (first | refine blk_drewN ?_ _ | refine blk_drew ?_ | refine blk_alloc ?_ _)); refine blk_far ?_ NB326_330.out _; (with_reducible repeat (first | refine blk_drewN ?_ _ | refine blk_drew ?_ | refine blk_alloc ?_ _)); exact BK326.out) hg (by simp [Value.ownBlock])); have n2_ := Aside0.mk (blk_grown (g := gb327) (o := .cells #[.int .i64 0, .slice none 0 0] 26 (0, 0)) (by (with_reducible repeat (first | refine blk_drewN ?_ _ | refine blk_drew ?_ | refine blk_alloc ?_ _)); refine blk_far ?_ NB327_330.out _; (with_reducible repeat (first | refine blk_drewN ?_ _ | refine blk_drew ?_ | refine blk_alloc ?_ _)); refine blk_far ?_ NB327_330.out _; (with_reducible repeat (first | refine blk_drewN ?_ _ | refine blk_drew ?_ | refine blk_alloc ?_ _)); refine blk_far ?_ NB327_330.out _; (with_reducible repeat (first | refine blk_drewN ?_ _ | refine blk_drew ?_ | refine blk_alloc ?_ _)); refine blk_far ?_ NB327_330.out _; (with_reducible repeat (first | refine blk_drewN ?_ _ | refine blk_drew ?_ | refine blk_alloc ?_ _)); exact BK327.out) hg (by simp [Value.ownBlock])); have n3_ := Aside0.mk (blk_grown (g := gb328) (o := .cells #[.int .i64 a0_0, u329001] 26 (0, 0)) (by (with_reducible repeat (first | refine blk_drewN ?_ _ | refine blk_drew ?_ | refine blk_alloc ?_ _)); refine blk_far ?_ NB328_330.out _; (with_reducible repeat (first | refine blk_drewN ?_ _ | refine blk_drew ?_ | refine blk_alloc ?_ _)); refine blk_far ?_ NB328_330.out _; (with_reducible repeat (first | refine blk_drewN ?_ _ | refine blk_drew ?_ | refine blk_alloc ?_ _)); refine blk_far ?_ NB328_330.out _; (with_reducible repeat (first | refine blk_drewN ?_ _ | refine blk_drew ?_ | refine blk_alloc ?_ _)); refine blk_far ?_ NB328_330.out _; (with_reducible repeat (first | refine blk_drewN ?_ _ | refine blk_drew ?_ | refine blk_alloc ?_ _)); exact BK328.out) hg (by simp [Value.ownBlock])); have n4_ := Aside0.mk (blk_grown (g := gb330) (o := .cells #[.int .i64 ((rd_T43 l0_1 x12_1).f0), .int .i64 ((rd_T43 l0_1 x12_1).f1), .string ((rd_T43 l0_1 x12_1).f2), .slice A329_3 ((rd_T43 l0_1 x12_1).f3).length c329_3] 43 (0, 0)) (by (with_reducible repeat (first | refine blk_drewN ?_ _ | refine blk_drew ?_ | refine blk_alloc ?_ _)); refine blk_put (cs := #[.int .i64 ((rd_T43 l0_1 x12_1).f0), .int .i64 ((rd_T43 l0_1 x12_1).f1), .string ((rd_T43 l0_1 x12_1).f2), .slice none 0 0]) ?_ 3 _ rfl; (with_reducible repeat (first | refine blk_drewN ?_ _ | refine blk_drew ?_ | refine blk_alloc ?_ _)); refine blk_put (cs := #[.int .i64 ((rd_T43 l0_1 x12_1).f0), .int .i64 ((rd_T43 l0_1 x12_1).f1), .string (⟨#[]⟩ : ByteArray), .slice none 0 0]) ?_ 2 _ rfl; (with_reducible repeat (first | refine blk_drewN ?_ _ | refine blk_drew ?_ | refine blk_alloc ?_ _)); refine blk_put (cs := #[.int .i64 ((rd_T43 l0_1 x12_1).f0), .int .i64 0, .string (⟨#[]⟩ : ByteArray), .slice none 0 0]) ?_ 1 _ rfl; (with_reducible repeat (first | refine blk_drewN ?_ _ | refine blk_drew ?_ | refine blk_alloc ?_ _)); refine blk_put (cs := #[.int .i64 0, .int .i64 0, .string (⟨#[]⟩ : ByteArray), .slice none 0 0]) ?_ 0 _ rfl; (with_reducible repeat (first | refine blk_drewN ?_ _ | refine blk_drew ?_ | refine blk_alloc ?_ _)); exact BK330.out) hg (by simp [Value.ownBlock])); have n5_ := Aside0.mk (hb); have n6_ := Aside0.mk (ho); clear HO_329001; clear BK326; clear BK327; clear BK328; clear BK330; clear HB; have HO_329001 := n0_; have BK326 := n1_; have BK327 := n2_; have BK328 := n3_; have BK330 := n4_; have HB := n5_; have HO333 := n6_; clear n0_ n1_ n2_ n3_ n4_ n5_ n6_; clear ho hb hg hat; obtain ⟨Ao22, co22, eo22⟩ := Kd.R_slice HO333.out; subst eo22; have hcz23_0 : w21.cell? ⟨gb330, 0, none⟩ = some (.int .i64 ((rd_T43 l0_1 x12_1).f0)) := (blk_cell BK330.out 0).trans rfl; have hcz23_1 : w21.cell? ⟨gb330, 1, none⟩ = some (.int .i64 ((rd_T43 l0_1 x12_1).f1)) := (blk_cell BK330.out 1).trans rfl; have hcz23_2 : w21.cell? ⟨gb330, 2, none⟩ = some (.string ((rd_T43 l0_1 x12_1).f2)) := (blk_cell BK330.out 2).trans rfl; have hcz23_3 : w21.cell? ⟨gb330, 3, none⟩ = some (.slice A329_3 ((rd_T43 l0_1 x12_1).f3).length c329_3) := (blk_cell BK330.out 3).trans rfl; have hfz23_0 := blk_frozen BK330.out 0; have hfz23_1 := blk_frozen BK330.out 1; have hfz23_2 := blk_frozen BK330.out 2; have hfz23_3 := blk_frozen BK330.out 3) | ((with_reducible refine gate_store (t := 41) (p := 19) rfl ?_); refine store_event (t := 41) (p := 19) (v := ?vo_w24) (w1 := (w21.setCell ⟨gb330, 3, none⟩ (.slice Ao22 y331.length co22))) ?hg ?ho ?hn ?hr ?_; (case ho => rfl); (case hg => rfl); (case hn => rfl); (case hr => first | (go_simp; done) | (go_simp; rfl)); intro w24 hw; have n0_ : Aside0 (Kd.S k43 43 w24 w.heap.size (fun k_ => some k_ ≠ (.slice Ao22 y331.length co22 : Value).ownBlock ∧ k_ ≠ gb330) u329001 x329001_1) := ⟨(by rw [hw]; exact (by (with_reducible repeat (first | apply Kd.S_alloc | apply Kd.S_drewN | apply Kd.S_drew)); exact Kd.S_mono (Kd.S_far (p := ⟨gb330, 3, none⟩) (Kd.S_mono HO_329001.out (fun k_ hk => (⟨hk, hk.1.2⟩ : _ ∧ k_ ≠ gb330))) (fun _ hk => hk.2) (.slice Ao22 y331.length co22)) (fun _ hk => ⟨hk.1.2, hk.1.1.2⟩)))⟩; have n1_ : Aside0 (Kd.R k90 90 w24 w.heap.size (fun _ => True) (.slice Ao22 y331.length co22) y331) := ⟨(by rw [hw]; exact (by (with_reducible repeat (first | apply Kd.R_alloc | apply Kd.R_drewN | apply Kd.R_drew)); exact Kd.R_mono (Kd.R_far (p := ⟨gb330, 3, none⟩) (Kd.R_types HO333.out BK330.out (by decide)) (fun _ hk => hk.2) (.slice Ao22 y331.length co22)) (fun _ hk => trivial)))⟩; have n2_ : Aside0 (w24.heap[gb326]? = some (.cells #[.int .i64 a0_0, .slice (some ad329) l0_1.length c0_1] 26 (0, 0))) := ⟨(by rw [hw]; exact (by (with_reducible repeat (first | refine blk_drewN ?_ _ | refine blk_drew ?_ | refine blk_alloc ?_ _)); refine blk_far ?_ NB326_330.out _; (with_reducible repeat (first | refine blk_drewN ?_ _ | refine blk_drew ?_ | refine blk_alloc ?_ _)); exact BK326.out))⟩; have n3_ : Aside0 (w24.heap[gb327]? = some (.cells #[.int .i64 0, .slice none 0 0] 26 (0, 0))) := ⟨(by rw [hw]; exact (by (with_reducible repeat (first | refine blk_drewN ?_ _ | refine blk_drew ?_ | refine blk_alloc ?_ _)); refine blk_far ?_ NB327_330.out _; (with_reducible repeat (first | refine blk_drewN ?_ _ | refine blk_drew ?_ | refine blk_alloc ?_ _)); exact BK327.out))⟩; have n4_ : Aside0 (w24.heap[gb328]? = some (.cells #[.int .i64 a0_0, u329001] 26 (0, 0))) := ⟨(by rw [hw]; exact (by (with_reducible repeat (first | refine blk_drewN ?_ _ | refine blk_drew ?_ | refine blk_alloc ?_ _)); refine blk_far ?_ NB328_330.out _; (with_reducible repeat (first | refine blk_drewN ?_ _ | refine blk_drew ?_ | refine blk_alloc ?_ _)); exact BK328.out))⟩; have n5_ : Aside0 (w24.heap[gb330]? = some (.cells #[.int .i64 ((rd_T43 l0_1 x12_1).f0), .int .i64 ((rd_T43 l0_1 x12_1).f1), .string ((rd_T43 l0_1 x12_1).f2), .slice Ao22 y331.length co22] 43 (0, 0))) := ⟨(by rw [hw]; exact (by (with_reducible repeat (first | refine blk_drewN ?_ _ | refine blk_drew ?_ | refine blk_alloc ?_ _)); refine blk_put (cs := #[.int .i64 ((rd_T43 l0_1 x12_1).f0), .int .i64 ((rd_T43 l0_1 x12_1).f1), .string ((rd_T43 l0_1 x12_1).f2), .slice A329_3 ((rd_T43 l0_1 x12_1).f3).length c329_3]) ?_ 3 _ rfl; (with_reducible repeat (first | refine blk_drewN ?_ _ | refine blk_drew ?_ | refine blk_alloc ?_ _)); exact BK330.out))⟩; have n6_ : Aside0 (Below w.heap.size w w24) := ⟨(by rw [hw]; exact (by repeat (first | (with_reducible first | exact HB.out | apply below_alloc | apply pw_below_drewN | apply below_drew1 | refine below_set ?_ GE326.out | refine below_set ?_ GE327.out | refine below_set ?_ GE328.out | refine below_set ?_ GE330.out) | exact HB.out)))⟩; clear hw; clear HO_329001; clear HO333; clear BK326; clear BK327; clear BK328; clear BK330; clear HB; have HO_329001 := n0_; have HO333 := n1_; have BK326 := n2_; have BK327 := n3_; have BK328 := n4_; have BK330 := n5_; have HB := n6_; clear n0_ n1_ n2_ n3_ n4_ n5_ n6_; have hnb25 := NB328_326.out; have hnc25 := NB326_328.out; have hnb26 := NB328_327.out; have hnc26 := NB327_328.out; have hcz27_0 : w24.cell? ⟨gb328, 0, none⟩ = some (.int .i64 a0_0) := (blk_cell BK328.out 0).trans rfl; have hcz27_1 : w24.cell? ⟨gb328, 1, none⟩ = some (u329001) := (blk_cell BK328.out 1).trans rfl; have hfz27_0 := blk_frozen BK328.out 0; have hfz27_1 := blk_frozen BK328.out 1; have hcz28_0 : w24.cell? ⟨gb330, 0, none⟩ = some (.int .i64 ((rd_T43 l0_1 x12_1).f0)) := (blk_cell BK330.out 0).trans rfl; have hcz28_1 : w24.cell? ⟨gb330, 1, none⟩ = some (.int .i64 ((rd_T43 l0_1 x12_1).f1)) := (blk_cell BK330.out 1).trans rfl; have hcz28_2 : w24.cell? ⟨gb330, 2, none⟩ = some (.string ((rd_T43 l0_1 x12_1).f2)) := (blk_cell BK330.out 2).trans rfl; have hcz28_3 : w24.cell? ⟨gb330, 3, none⟩ = some (.slice Ao22 y331.length co22) := (blk_cell BK330.out 3).trans rfl; have hfz28_0 := blk_frozen BK330.out 0; have hfz28_1 := blk_frozen BK330.out 1; have hfz28_2 := blk_frozen BK330.out 2; have hfz28_3 := blk_frozen BK330.out 3) | ((with_reducible refine gate_builtin (b := .append) (xs := #[.tmp 21, .tmp 23]) rfl ?_); at_builtin; refine Kd.S_append k43 (w0 := w) w.heap.size rfl (.tmp 21) (.tmp 23) 24 43 (.agg #[(.int .i64 0), (.int .i64 0), (.string ⟨#[]⟩), (.slice none 0 0)]) 56 rfl Tryd.underlying24 info43 rfl (by decide) (by omega) u329001 x329001_1 (⟨(rd_T43 l0_1 x12_1).f0, (rd_T43 l0_1 x12_1).f1, (rd_T43 l0_1 x12_1).f2, y331⟩ : S43) [.int .i64 ((rd_T43 l0_1 x12_1).f0), .int .i64 ((rd_T43 l0_1 x12_1).f1), .string ((rd_T43 l0_1 x12_1).f2), .slice Ao22 y331.length co22] (fun k_ => k_ ≠ gb330) (fun k_ => some k_ = (.slice Ao22 y331.length co22 : Value).ownBlock) rfl rfl ?aP (fun k_ hk_ => ((Kd.R_mono (ok' := fun k_ => ((fun k_ => k_ ≠ gb330)) k_ ∧ some k_ ≠ (u329001 : Value).ownBlock) (Kd.R_types (Kd.R_apart' (HO333.out) (Kd.S_typed HO_329001.out) (by decide)) BK330.out (by decide)) (fun k_ hk => ⟨hk.2, hk.1.2⟩))).1 k_ hk_.symm) ?aF ?aO ?aB ?aS ?aL ?_; (case aP => exact k43_mkM _ _ _ (⟨(rd_T43 l0_1 x12_1).f0, (rd_T43 l0_1 x12_1).f1, (rd_T43 l0_1 x12_1).f2, y331⟩ : S43) (Kd.R_mono (Kd.R_tight rfl (Kd.R_mono (ok' := fun k_ => ((fun k_ => k_ ≠ gb330)) k_ ∧ some k_ ≠ (u329001 : Value).ownBlock) (Kd.R_types (Kd.R_apart' (HO333.out) (Kd.S_typed HO_329001.out) (by decide)) BK330.out (by decide)) (fun k_ hk => ⟨hk.2, hk.1.2⟩))) (fun _ h_ => h_))); (case aB => exact (by repeat (first | (with_reducible first | exact HB.out | apply below_alloc | apply pw_below_drewN | apply below_drew1 | refine below_set ?_ GE326.out | refine below_set ?_ GE327.out | refine below_set ?_ GE328.out | refine below_set ?_ GE330.out) | exact HB.out))); (case aF => exact (fun k_ hk => Kd.freshB (g := gb330) (o := .cells #[.int .i64 ((rd_T43 l0_1 x12_1).f0), .int .i64 ((rd_T43 l0_1 x12_1).f1), .string ((rd_T43 l0_1 x12_1).f2), .slice Ao22 y331.length co22] 43 (0, 0)) (by (with_reducible repeat (first | refine blk_drewN ?_ _ | refine blk_drew ?_ | refine blk_alloc ?_ _)); exact BK330.out) k_ hk)); (case aO => exact (by (with_reducible repeat (first | apply Kd.S_alloc | apply Kd.S_drewN | apply Kd.S_drew)); exact Kd.S_mono HO_329001.out (fun k_ hk => ⟨hk.2, fun e_ => hk.1 e_⟩))); (case aS => exact (below_size (by repeat (first | (with_reducible first | exact HB.out | apply below_alloc | apply pw_below_drewN | apply below_drew1 | refine below_set ?_ GE326.out | refine below_set ?_ GE327.out | refine below_set ?_ GE328.out | refine below_set ?_ GE330.out) | exact HB.out)))); (case aL => have := LMc15.out; omega); intro v335 w29 ho hb hg hat; rw [← Ny334.out] at ho; have n0_ := Aside0.mk (blk_grown (g := gb326) (o := .cells #[.int .i64 a0_0, .slice (some ad329) l0_1.length c0_1] 26 (0, 0)) (by (with_reducible repeat (first | refine blk_drewN ?_ _ | refine blk_drew ?_ | refine blk_alloc ?_ _)); exact BK326.out) hg (Kd.S_ne HO_329001.out BK326.out (by decide))); have n1_ := Aside0.mk (blk_grown (g := gb327) (o := .cells #[.int .i64 0, .slice none 0 0] 26 (0, 0)) (by (with_reducible repeat (first | refine blk_drewN ?_ _ | refine blk_drew ?_ | refine blk_alloc ?_ _)); exact BK327.out) hg (Kd.S_ne HO_329001.out BK327.out (by decide))); have n2_ := Aside0.mk (blk_grown (g := gb328) (o := .cells #[.int .i64 a0_0, u329001] 26 (0, 0)) (by (with_reducible repeat (first | refine blk_drewN ?_ _ | refine blk_drew ?_ | refine blk_alloc ?_ _)); exact BK328.out) hg (Kd.S_ne HO_329001.out BK328.out (by decide))); have n3_ := Aside0.mk (blk_grown (g := gb330) (o := .cells #[.int .i64 ((rd_T43 l0_1 x12_1).f0), .int .i64 ((rd_T43 l0_1 x12_1).f1), .string ((rd_T43 l0_1 x12_1).f2), .slice Ao22 y331.length co22] 43 (0, 0)) (by (with_reducible repeat (first | refine blk_drewN ?_ _ | refine blk_drew ?_ | refine blk_alloc ?_ _)); exact BK330.out) hg (Kd.S_away HO_329001.out (fun _ hk => hk.2))); have n4_ := Aside0.mk (hb); have n5_ := Aside0.mk (ho); clear BK326; clear BK327; clear BK328; clear BK330; clear HB; clear HO_329001; clear HO333; have BK326 := n0_; have BK327 := n1_; have BK328 := n2_; have BK330 := n3_; have HB := n4_; have HO336 := n5_; clear n0_ n1_ n2_ n3_ n4_ n5_; clear ho hb hg hat; obtain ⟨Ao30, co30, eo30⟩ := Kd.S_slice HO336.out; subst eo30; have hcz31_0 : w29.cell? ⟨gb328, 0, none⟩ = some (.int .i64 a0_0) := (blk_cell BK328.out 0).trans rfl; have hcz31_1 : w29.cell? ⟨gb328, 1, none⟩ = some (u329001) := (blk_cell BK328.out 1).trans rfl; have hfz31_0 := blk_frozen BK328.out 0; have hfz31_1 := blk_frozen BK328.out 1))
                go_roundg k1
                case measure => have := HK1.out; omega
                case rel => exact ⟨(wrap64 (x12_1 + 1)), (y334), (.slice Ao30 y334.length co30), (by first | rfl | (simp; done) | (simp [*]; done)), H', ⟨by have := HK1.out; omega⟩, ⟨by (with_reducible repeat (first | apply Kd.S_alloc | apply Kd.S_drewN | apply Kd.S_drew)); exact Kd.S_mono (Kd.S_far (p := ⟨gb328, 1, none⟩) (Kd.S_types HO336.out BK328.out (by decide)) (fun _ hk => hk.2) (.slice Ao30 y334.length co30)) (fun _ hk => trivial)⟩, ⟨by (with_reducible repeat (first | refine blk_drewN ?_ _ | refine blk_drew ?_ | refine blk_alloc ?_ _)); refine blk_far ?_ NB326_328.out _; (with_reducible repeat (first | refine blk_drewN ?_ _ | refine blk_drew ?_ | refine blk_alloc ?_ _)); exact BK326.out⟩, ⟨by (with_reducible repeat (first | refine blk_drewN ?_ _ | refine blk_drew ?_ | refine blk_alloc ?_ _)); refine blk_far ?_ NB327_328.out _; (with_reducible repeat (first | refine blk_drewN ?_ _ | refine blk_drew ?_ | refine blk_alloc ?_ _)); exact BK327.out⟩, ⟨by (with_reducible repeat (first | refine blk_drewN ?_ _ | refine blk_drew ?_ | refine blk_alloc ?_ _)); refine blk_put (cs := #[.int .i64 a0_0, u329001]) ?_ 1 _ rfl; (with_reducible repeat (first | refine blk_drewN ?_ _ | refine blk_drew ?_ | refine blk_alloc ?_ _)); exact BK328.out⟩, ⟨by repeat (first | (with_reducible first | exact HB.out | apply below_alloc | apply pw_below_drewN | apply below_drew1 | refine below_set ?_ GE326.out | refine below_set ?_ GE327.out | refine below_set ?_ GE328.out | refine below_set ?_ GE330.out) | exact HB.out)⟩⟩
              · rw [if_neg c15] at H
                exact absurd H (by simp)
            · rw [if_neg c14] at H
              exact absurd H (by simp)
          · rw [if_neg c13] at H
            exact absurd H (by simp)
        · rw [if_neg c12] at H
          exact absurd H (by simp)
      · rw [if_neg c11] at H
        have c11b0 : decide (x12_1 < (l0_1.length : Int)) = false := decide_eq_false c11
        clear c11
        simp only [Option.some.injEq, Prod.mk.injEq] at H
        obtain ⟨rfl, rfl⟩ := H
        have hnb32 := NB328_326.out
        have hnc32 := NB326_328.out
        have hnb33 := NB328_327.out
        have hnc33 := NB327_328.out
        have hcz34_0 : wr.cell? ⟨gb328, 0, none⟩ = some (.int .i64 a0_0) := (blk_cell BK328.out 0).trans rfl
        have hcz34_1 : wr.cell? ⟨gb328, 1, none⟩ = some (u329001) := (blk_cell BK328.out 1).trans rfl
        have hfz34_0 := blk_frozen BK328.out 0
        have hfz34_1 := blk_frozen BK328.out 1
        have hnb35 := NB327_326.out
        have hnc35 := NB326_327.out
        have hcz36_0 : wr.cell? ⟨gb327, 0, none⟩ = some (.int .i64 0) := (blk_cell BK327.out 0).trans rfl
        have hcz36_1 : wr.cell? ⟨gb327, 1, none⟩ = some (.slice none 0 0) := (blk_cell BK327.out 1).trans rfl
        have hfz36_0 := blk_frozen BK327.out 0
        have hfz36_1 := blk_frozen BK327.out 1
        obtain ⟨Ao37, co37, eo37⟩ := Kd.S_slice HO_329001.out
        subst eo37
        go_wp2
        refine bodyPost_ret (results_cell_row rfl _ _ gb327 26 #[.int .i64 a0_0, .slice Ao37 x329001_1.length co37] (0, 0) _ rfl (by (with_reducible repeat (first | refine blk_drewN ?_ _ | refine blk_drew ?_ | refine blk_alloc ?_ _)); refine blk_put (cs := #[.int .i64 a0_0, .slice none 0 0]) ?_ 1 _ rfl; (with_reducible repeat (first | refine blk_drewN ?_ _ | refine blk_drew ?_ | refine blk_alloc ?_ _)); refine blk_put (cs := #[.int .i64 0, .slice none 0 0]) ?_ 0 _ rfl; (with_reducible repeat (first | refine blk_drewN ?_ _ | refine blk_drew ?_ | refine blk_alloc ?_ _)); exact BK327.out) Tryd.underlying26 rfl (by kernel_rfl)) rfl ?_
        exact ⟨_, by first | rfl | (simp [ne_nil_b, eq_nil_b]; done) | (simp [errW_none, errW_some] <;> rfl) | (simp [*, errW_none, errW_some] <;> rfl), by (with_reducible repeat (first | apply Kd.S_alloc | apply Kd.S_drewN | apply Kd.S_drew)); exact Kd.S_mono (Kd.S_far (p := ⟨gb327, 1, none⟩) (Kd.S_far (p := ⟨gb327, 0, none⟩) (Kd.S_types HO_329001.out BK327.out (by decide)) (fun _ hk => hk.2) (.int .i64 a0_0)) (fun _ hk => hk.2) (.slice Ao37 x329001_1.length co37)) (fun _ hk => trivial), by repeat (first | (with_reducible first | exact HB.out | apply below_alloc | apply pw_below_drewN | apply below_drew1 | refine below_set ?_ GE326.out | refine below_set ?_ GE327.out | refine below_set ?_ GE328.out) | exact HB.out)⟩
end Go.Proofs.YtinbpjodheceoaaDoor.Sp
