/- Written by this session's programs (sprint.py, prune.py). -/
import Derived.Test.YtinbpjodheceoaaDoorXgSp0
import Derived.Test.YtinbpjodheceoaaDoorXgSp1
import Derived.Test.YtinbpjodheceoaaDoorXgSp3
import Derived.Test.YtinbpjodheceoaaDoorXgSp6
import Derived.Test.YtinbpjodheceoaaDoorXgSp20
import Derived.Test.YtinbpjodheceoaaDoorXgSp21
import Derived.Test.YtinbpjodheceoaaDoorXgSp38
namespace Go.Proofs.YtinbpjodheceoaaDoor.Sp
open Go.RowKit Go.Proofs.YtinbpjodheceoaaDoorW.PrintWords Go.Proofs.YtinbpjodheceoaaDoorW.PrintLast Go.Proofs.YtinbpjodheceoaaDoorW.PrintMore
attribute [local go_sem] max2_int min2_int max_two min_two max_three min_three max_four min_four   -- for this text's walks alone
set_option linter.unusedVariables false
set_option linter.unusedSimpArgs false
attribute [local go_sem high] eqA23
attribute [local go_sem] own_leq own_gtr own_geq   -- for this text's walks alone
mutual
def blotterlaw08_AnchorHolds.j0 : Nat → Bool → Bool → Int → List (S43) → Int → Int → Bool → Int → Int → Bool → Option (Bool)
 | 0, _, _, _, _, _, _, _, _, _, _ => none
 | k + 1, x5, x31, x607000, x607001, x608000, x608001, x608002, x614000, x614001, x614002 => if x31 = true then (if x5 = true then (some (x614000 == 0 && (x614001 == 0 && (!x614002)))) else (none)) else ((change_To.f k x607000 x607001).bind fun bt614 => ((anchor_Right.f k x614000 x614001 x614002 bt614.1).bind fun t616 => (if t616 = 0 then (if x608002 = true then (blotterlaw08_AnchorHolds.j1 k (!x614002) x607000 x607001 x608000 x608001 x608002 x614000 x614001 x614002) else (blotterlaw08_AnchorHolds.j1 k false x607000 x607001 x608000 x608001 x608002 x614000 x614001 x614002)) else (blotterlaw08_AnchorHolds.j1 k true x607000 x607001 x608000 x608001 x608002 x614000 x614001 x614002))))
def blotterlaw08_AnchorHolds.j1 : Nat → Bool → Int → List (S43) → Int → Int → Bool → Int → Int → Bool → Option (Bool)
 | 0, _, _, _, _, _, _, _, _, _ => none
 | k + 1, x56, x607000, x607001, x608000, x608001, x608002, x614000, x614001, x614002 => if x56 = true then (none) else ((blotterref06_Atoms.f k x607000 x607001).bind fun t617 => (blotterlaw08_AnchorHolds.l0 k t617 0 0 0 0 x608000 x608001 x608002 x614000 x614001 x614002))
def blotterlaw08_AnchorHolds.l0 : Nat → List (S43) → Int → Int → Int → Int → Int → Int → Bool → Int → Int → Bool → Option (Bool)
 | 0, _, _, _, _, _, _, _, _, _, _, _ => none
 | k + 1, x11, x12, x13, x14, x15, x608000, x608001, x608002, x614000, x614001, x614002 => if x15 < (x11.length : Int) then (if x13 ≥ x614000 then (blotterlaw08_AnchorHolds.j3 k x11 x12 x13 x14 x15 (decide (x13 < x614001)) x608000 x608001 x608002 x614000 x614001 x614002) else (blotterlaw08_AnchorHolds.j3 k x11 x12 x13 x14 x15 false x608000 x608001 x608002 x614000 x614001 x614002)) else (if (x614002 == (x14 == 0)) = true then (some (x14 == (wrap64 (x614001 - x614000)))) else (none))
def blotterlaw08_AnchorHolds.j3 : Nat → List (S43) → Int → Int → Int → Int → Bool → Int → Int → Bool → Int → Int → Bool → Option (Bool)
 | 0, _, _, _, _, _, _, _, _, _, _, _, _ => none
 | k + 1, x11, x12, x13, x14, x15, x16, x608000, x608001, x608002, x614000, x614001, x614002 => if 0 ≤ x15 then (if x15 < (x11.length : Int) then (if ((rd_T43 x11 x15).f0) = 3 then (blotterlaw08_AnchorHolds.l0 k x11 (wrap64 (x12 + 1)) x13 x14 (wrap64 (x15 + 1)) x608000 x608001 x608002 x614000 x614001 x614002) else (if ((rd_T43 x11 x15).f0) = 2 then (if x608002 = true then (blotterlaw08_AnchorHolds.j4 k x11 x12 x13 x14 x15 x16 false x608000 x608001 x608002 x614000 x614001 x614002) else (if x12 > x608000 then (blotterlaw08_AnchorHolds.j4 k x11 x12 x13 x14 x15 x16 (decide (x12 < x608001)) x608000 x608001 x608002 x614000 x614001 x614002) else (blotterlaw08_AnchorHolds.j4 k x11 x12 x13 x14 x15 x16 false x608000 x608001 x608002 x614000 x614001 x614002))) else (if x608002 = true then (blotterlaw08_AnchorHolds.j5 k x11 x12 x13 x14 x15 x16 false x608000 x608001 x608002 x614000 x614001 x614002) else (if x12 ≥ x608000 then (blotterlaw08_AnchorHolds.j5 k x11 x12 x13 x14 x15 x16 (decide (x12 < x608001)) x608000 x608001 x608002 x614000 x614001 x614002) else (blotterlaw08_AnchorHolds.j5 k x11 x12 x13 x14 x15 x16 false x608000 x608001 x608002 x614000 x614001 x614002))))) else (none)) else (none)
def blotterlaw08_AnchorHolds.j4 : Nat → List (S43) → Int → Int → Int → Int → Bool → Bool → Int → Int → Bool → Int → Int → Bool → Option (Bool)
 | 0, _, _, _, _, _, _, _, _, _, _, _, _, _ => none
 | k + 1, x11, x12, x13, x14, x15, x16, x17, x608000, x608001, x608002, x614000, x614001, x614002 => if (x17 != x16) = true then (none) else (if x17 = true then (blotterlaw08_AnchorHolds.l0 k x11 x12 (wrap64 (x13 + 1)) (wrap64 (x14 + 1)) (wrap64 (x15 + 1)) x608000 x608001 x608002 x614000 x614001 x614002) else (blotterlaw08_AnchorHolds.l0 k x11 x12 (wrap64 (x13 + 1)) x14 (wrap64 (x15 + 1)) x608000 x608001 x608002 x614000 x614001 x614002))
def blotterlaw08_AnchorHolds.j5 : Nat → List (S43) → Int → Int → Int → Int → Bool → Bool → Int → Int → Bool → Int → Int → Bool → Option (Bool)
 | 0, _, _, _, _, _, _, _, _, _, _, _, _, _ => none
 | k + 1, x11, x12, x13, x14, x15, x16, x18, x608000, x608001, x608002, x614000, x614001, x614002 => if (x18 != x16) = true then (none) else (if x18 = true then (blotterlaw08_AnchorHolds.l0 k x11 (wrap64 (x12 + 1)) (wrap64 (x13 + 1)) (wrap64 (x14 + 1)) (wrap64 (x15 + 1)) x608000 x608001 x608002 x614000 x614001 x614002) else (blotterlaw08_AnchorHolds.l0 k x11 (wrap64 (x12 + 1)) (wrap64 (x13 + 1)) x14 (wrap64 (x15 + 1)) x608000 x608001 x608002 x614000 x614001 x614002))
end
def blotterlaw08_AnchorHolds.f (k : Nat) (a0_0 : Int) (l0_1 : List (S43)) (a1_0 : Int) (a1_1 : Int) (a1_2 : Bool) : Option (Bool) := (blotterlaw08_awake.f k).bind fun t608 => ((anchor_Move.f k a0_0 l0_1 a1_0 a1_1 a1_2).bind fun bt609 => (if t608 = true then (blotterlaw08_AnchorHolds.j0 k t608 (bt609.2.2.2 != 0) a0_0 l0_1 a1_0 a1_1 a1_2 bt609.1 bt609.2.1 bt609.2.2.1) else (blotterlaw08_AnchorHolds.j0 k t608 true a0_0 l0_1 a1_0 a1_1 a1_2 bt609.1 bt609.2.1 bt609.2.2.1)))
theorem blotterlaw08_AnchorHolds.mono_l : ∀ k, (∀ y0 y1 y2 y3 y4 y5 y6 y7 y8 y9, LeO (blotterlaw08_AnchorHolds.j0 k y0 y1 y2 y3 y4 y5 y6 y7 y8 y9) (blotterlaw08_AnchorHolds.j0 (k + 1) y0 y1 y2 y3 y4 y5 y6 y7 y8 y9)) ∧ (∀ y0 y1 y2 y3 y4 y5 y6 y7 y8, LeO (blotterlaw08_AnchorHolds.j1 k y0 y1 y2 y3 y4 y5 y6 y7 y8) (blotterlaw08_AnchorHolds.j1 (k + 1) y0 y1 y2 y3 y4 y5 y6 y7 y8)) ∧ (∀ y0 y1 y2 y3 y4 y5 y6 y7 y8 y9 y10, LeO (blotterlaw08_AnchorHolds.l0 k y0 y1 y2 y3 y4 y5 y6 y7 y8 y9 y10) (blotterlaw08_AnchorHolds.l0 (k + 1) y0 y1 y2 y3 y4 y5 y6 y7 y8 y9 y10)) ∧ (∀ y0 y1 y2 y3 y4 y5 y6 y7 y8 y9 y10 y11, LeO (blotterlaw08_AnchorHolds.j3 k y0 y1 y2 y3 y4 y5 y6 y7 y8 y9 y10 y11) (blotterlaw08_AnchorHolds.j3 (k + 1) y0 y1 y2 y3 y4 y5 y6 y7 y8 y9 y10 y11)) ∧ (∀ y0 y1 y2 y3 y4 y5 y6 y7 y8 y9 y10 y11 y12, LeO (blotterlaw08_AnchorHolds.j4 k y0 y1 y2 y3 y4 y5 y6 y7 y8 y9 y10 y11 y12) (blotterlaw08_AnchorHolds.j4 (k + 1) y0 y1 y2 y3 y4 y5 y6 y7 y8 y9 y10 y11 y12)) ∧ (∀ y0 y1 y2 y3 y4 y5 y6 y7 y8 y9 y10 y11 y12, LeO (blotterlaw08_AnchorHolds.j5 k y0 y1 y2 y3 y4 y5 y6 y7 y8 y9 y10 y11 y12) (blotterlaw08_AnchorHolds.j5 (k + 1) y0 y1 y2 y3 y4 y5 y6 y7 y8 y9 y10 y11 y12))
 | 0 => ⟨fun _ _ _ _ _ _ _ _ _ _ r h => by simp [blotterlaw08_AnchorHolds.j0] at h, fun _ _ _ _ _ _ _ _ _ r h => by simp [blotterlaw08_AnchorHolds.j1] at h, fun _ _ _ _ _ _ _ _ _ _ _ r h => by simp [blotterlaw08_AnchorHolds.l0] at h, fun _ _ _ _ _ _ _ _ _ _ _ _ r h => by simp [blotterlaw08_AnchorHolds.j3] at h, fun _ _ _ _ _ _ _ _ _ _ _ _ _ r h => by simp [blotterlaw08_AnchorHolds.j4] at h, fun _ _ _ _ _ _ _ _ _ _ _ _ _ r h => by simp [blotterlaw08_AnchorHolds.j5] at h⟩
 | k + 1 => by
  obtain ⟨ih0, ih1, ih2, ih3, ih4, ih5⟩ := blotterlaw08_AnchorHolds.mono_l k
  refine ⟨?_, ?_, ?_, ?_, ?_, ?_⟩
  ·intro y0 y1 y2 y3 y4 y5 y6 y7 y8 y9
   unfold blotterlaw08_AnchorHolds.j0
   have m0 := @anchor_Move.mono; have m1 := @anchor_Right.mono; have m2 := @blotterlaw08_awake.mono; have m3 := @blotterref06_Atoms.mono; have m4 := @change_To.mono; exact lo
  ·intro y0 y1 y2 y3 y4 y5 y6 y7 y8
   unfold blotterlaw08_AnchorHolds.j1
   have m0 := @anchor_Move.mono; have m1 := @anchor_Right.mono; have m2 := @blotterlaw08_awake.mono; have m3 := @blotterref06_Atoms.mono; have m4 := @change_To.mono; exact lo
  ·intro y0 y1 y2 y3 y4 y5 y6 y7 y8 y9 y10
   unfold blotterlaw08_AnchorHolds.l0
   have m0 := @anchor_Move.mono; have m1 := @anchor_Right.mono; have m2 := @blotterlaw08_awake.mono; have m3 := @blotterref06_Atoms.mono; have m4 := @change_To.mono; exact lo
  ·intro y0 y1 y2 y3 y4 y5 y6 y7 y8 y9 y10 y11
   unfold blotterlaw08_AnchorHolds.j3
   have m0 := @anchor_Move.mono; have m1 := @anchor_Right.mono; have m2 := @blotterlaw08_awake.mono; have m3 := @blotterref06_Atoms.mono; have m4 := @change_To.mono; exact lo
  ·intro y0 y1 y2 y3 y4 y5 y6 y7 y8 y9 y10 y11 y12
   unfold blotterlaw08_AnchorHolds.j4
   have m0 := @anchor_Move.mono; have m1 := @anchor_Right.mono; have m2 := @blotterlaw08_awake.mono; have m3 := @blotterref06_Atoms.mono; have m4 := @change_To.mono; exact lo
  intro y0 y1 y2 y3 y4 y5 y6 y7 y8 y9 y10 y11 y12
  unfold blotterlaw08_AnchorHolds.j5
  have m0 := @anchor_Move.mono; have m1 := @anchor_Right.mono; have m2 := @blotterlaw08_awake.mono; have m3 := @blotterref06_Atoms.mono; have m4 := @change_To.mono; exact lo
theorem blotterlaw08_AnchorHolds.mono : ∀ a0 a1 a2 a3 a4 k, LeO (blotterlaw08_AnchorHolds.f k a0 a1 a2 a3 a4) (blotterlaw08_AnchorHolds.f (k + 1) a0 a1 a2 a3 a4) := by
 intro a0 a1 a2 a3 a4 k
 obtain ⟨ih0, ih1, ih2, ih3, ih4, ih5⟩ := blotterlaw08_AnchorHolds.mono_l k
 unfold blotterlaw08_AnchorHolds.f
 have m0 := @anchor_Move.mono; have m1 := @anchor_Right.mono; have m2 := @blotterlaw08_awake.mono; have m3 := @blotterref06_Atoms.mono; have m4 := @change_To.mono; exact lo
set_option maxHeartbeats 8000000 in
set_option maxRecDepth 100000 in
theorem blotterlaw08_AnchorHolds.calls (k : Nat) (a0_0 : Int) (A0_1 : Option Addr) (c0_1 : Nat) (l0_1 : List (S43)) (a1_0 : Int) (a1_1 : Int) (a1_2 : Bool) (r : Bool) (w : World) (hr0_1 : Kd.C k43 w A0_1 l0_1.length l0_1) (hc0_1 : l0_1.length ≤ c0_1) (hT_ : Tabs w) (h : blotterlaw08_AnchorHolds.f k a0_0 l0_1 a1_0 a1_1 a1_2 = some r) :
 Calls Tryd.prog 12 #[.agg #[.int .i64 a0_0, .slice A0_1 l0_1.length c0_1], .agg #[.int .i64 a1_0, .int .i64 a1_1, .bool a1_2]] w fun e w' => e = .returned (.bool r) ∧ Below w.heap.size w w' := by
 have hu26 := Tryd.underlying26
 have hu23 := Tryd.underlying23
 have HT_ := am hT_
 clear hT_
 have HR0_1 := am hr0_1
 have HC0_1 := am hc0_1
 clear hr0_1 hc0_1
 have HB := am (Below.refl w.heap.size w)
 have H : ((blotterlaw08_awake.f k).bind fun t608 => ((anchor_Move.f k a0_0 l0_1 a1_0 a1_1 a1_2).bind fun bt609 => (if t608 = true then (blotterlaw08_AnchorHolds.j0 k t608 (bt609.2.2.2 != 0) a0_0 l0_1 a1_0 a1_1 a1_2 bt609.1 bt609.2.1 bt609.2.2.1) else (blotterlaw08_AnchorHolds.j0 k t608 true a0_0 l0_1 a1_0 a1_1 a1_2 bt609.1 bt609.2.1 bt609.2.2.1)))) = some r := h
 clear h
 replace H := Option.bind_eq_some_iff.mp H
 obtain ⟨t608, A30, H⟩ := H
 replace H : ((anchor_Move.f k a0_0 l0_1 a1_0 a1_1 a1_2).bind fun bt609 => (if t608 = true then (blotterlaw08_AnchorHolds.j0 k t608 (bt609.2.2.2 != 0) a0_0 l0_1 a1_0 a1_1 a1_2 bt609.1 bt609.2.1 bt609.2.2.1) else (blotterlaw08_AnchorHolds.j0 k t608 true a0_0 l0_1 a1_0 a1_1 a1_2 bt609.1 bt609.2.1 bt609.2.2.1))) = some r := H
 have A3 := am A30
 clear A30
 replace H := Option.bind_eq_some_iff.mp H
 obtain ⟨⟨t609, t610, t611, t612⟩, A40, H⟩ := H
 replace H : (if t608 = true then (blotterlaw08_AnchorHolds.j0 k t608 (t612 != 0) a0_0 l0_1 a1_0 a1_1 a1_2 t609 t610 t611) else (blotterlaw08_AnchorHolds.j0 k t608 true a0_0 l0_1 a1_0 a1_1 a1_2 t609 t610 t611)) = some r := H
 have A4 := am A40
 clear A40
 have HC5 := am H
 clear H
 go_enter Tryd.func12, Tryd.ntmps12
 go_upto_region 3 with (first | ((with_reducible refine gate_dst (N := 2) rfl ?_); refine bev #[.int .i64 a0_0, .slice A0_1 l0_1.length c0_1] 26 ?_; intro gb606 hg w6 hbox hb; have BK606 := am (hbox); have GW606 := am (szl hg (bl HB.out)); have GE606 := am (szl hg (bl HB.out)); have HB := am (below_step (bl HB.out) hb); clear hb hbox hg) | ((with_reducible refine gate_dst (N := 3) rfl ?_); refine bev #[.int .i64 a1_0, .int .i64 a1_1, .bool a1_2] 23 ?_; intro gb607 hg w7 hbox hb; have BK607 := am (hbox); have GW607 := am (szl hg (bl HB.out)); have GE607 := am (szl hg (bl HB.out)); have HB := am (below_step (bl HB.out) hb); have NB606_607 := am (nel hg (bk BK606.out)); have NB607_606 := am (neg_ hg (bk BK606.out)); have BK606 := am (blk_below (bk BK606.out) hb); clear hb hbox hg) | ((with_reducible refine gate_callee (f := 14) rfl ?_); refine goesL_ (some 19) rfl rfl Tryd.func14 (by kernel_rfl) rfl #[] rfl (by (try simp only [List.map_toArray, List.map_cons, List.map_nil]); first | done | rfl | (simp only [List.length_drop, List.length_take]; rfl)) ?_; (with_reducible refine (blotterlaw08_awake.calls k  t608 _ ?side1 A3.out).mono ?_); (case side1 => exact Tabs.below HT_.out (bl HB.out)); rintro e w8 ⟨rfl, hb⟩; refine ⟨_, rfl, ?_⟩; have BK606 := am (blk_below (bk BK606.out) hb); have BK607 := am (blk_below (bk BK607.out) hb); have HB := am (below_step (bl HB.out) hb); (try clear hb); (try clear hb2); (try clear hk); (try clear hi); have hnb9 := NB606_607.out; have hnc9 := NB607_606.out; obtain ⟨hcz10_0, hcz10_1, hfz10_0, hfz10_1⟩ := bc2 BK606.out; obtain ⟨hcz11_0, hcz11_1, hcz11_2, hfz11_0, hfz11_1, hfz11_2⟩ := bc3 BK607.out) | ((with_reducible refine gate_callee (f := 15) rfl ?_); refine goesL_ (some 23) rfl rfl Tryd.func15 (by kernel_rfl) rfl #[.agg #[.int .i64 a0_0, .slice A0_1 l0_1.length c0_1], .agg #[.int .i64 a1_0, .int .i64 a1_1, .bool a1_2]] rfl (by (try simp only [List.map_toArray, List.map_cons, List.map_nil]); first | done | rfl | (simp only [List.length_drop, List.length_take]; rfl)) ?_; (with_reducible refine (anchor_Move.calls k a0_0 _ _ l0_1 a1_0 a1_1 a1_2 t609 t610 t611 t612 _ ?side1 ?side2 ?side3 A4.out).mono ?_); (case side1 => exact ks (Kd.C_below HR0_1.out HB.out)); (case side2 => exact HC0_1.out); (case side3 => exact Tabs.below HT_.out (bl HB.out)); rintro e w12 ⟨rfl, hb⟩; refine ⟨_, rfl, ?_⟩; have BK606 := am (blk_below (bk BK606.out) hb); have BK607 := am (blk_below (bk BK607.out) hb); have HB := am (below_step (bl HB.out) hb); (try clear hb); (try clear hb2); (try clear hk); (try clear hi)) | ((with_reducible refine gate_dst (N := 6) rfl ?_); refine bev #[.int .i64 0, .int .i64 0, .bool false] 23 ?_; intro gb613 hg w13 hbox hb; have BK613 := am (hbox); have GW613 := am (szl hg (bl HB.out)); have GE613 := am (szl hg (bl HB.out)); have HB := am (below_step (bl HB.out) hb); have NB606_613 := am (nel hg (bk BK606.out)); have NB613_606 := am (neg_ hg (bk BK606.out)); have BK606 := am (blk_below (bk BK606.out) hb); have NB607_613 := am (nel hg (bk BK607.out)); have NB613_607 := am (neg_ hg (bk BK607.out)); have BK607 := am (blk_below (bk BK607.out) hb); clear hb hbox hg; have hnb14 := NB613_606.out; have hnc14 := NB606_613.out; have hnb15 := NB613_607.out; have hnc15 := NB607_613.out; obtain ⟨hcz16_0, hcz16_1, hcz16_2, hfz16_0, hfz16_1, hfz16_2⟩ := bc3 BK613.out))
 (try simp only [Act.put, List.setIfInBounds_toArray, List.set_cons_zero, List.set_cons_succ])
 go_cut [31] (fun v31 wc => ∃ (kq : Nat) (x31_4 : Bool), v31 = .bool x31_4 ∧ Aside0 (blotterlaw08_AnchorHolds.j0 kq t608 x31_4 a0_0 l0_1 a1_0 a1_1 a1_2 t609 t610 t611 = some r) ∧ Aside0 (kq ≤ k) ∧ Aside0 (wc.heap[gb606]? = some (.cells #[.int .i64 a0_0, (.slice A0_1 l0_1.length c0_1)] 26 (0, 0))) ∧ Aside0 (wc.heap[gb607]? = some (.cells #[.int .i64 a1_0, .int .i64 a1_1, .bool a1_2] 23 (0, 0))) ∧ Aside0 (wc.heap[gb613]? = some (.cells #[.int .i64 t609, .int .i64 t610, .bool t611] 23 (0, 0))) ∧ Aside0 (Below w.heap.size w wc))
 case first =>
  have H := HC5.out
  clear HC5
  by_cases c17 : t608 = true
  ·subst c17
   have H1 : (blotterlaw08_AnchorHolds.j0 k true (t612 != 0) a0_0 l0_1 a1_0 a1_1 a1_2 t609 t610 t611) = some r := by rw [if_pos rfl] at H; exact H
   clear H
   have H := H1
   clear H1
   have H' := am H
   clear H
   go_wp2
   go_meet
   case rel => exact ⟨_, ((t612 != 0)), (rs), H', ⟨by first | omega | exact Nat.le_refl _⟩, ⟨bk BK606.out⟩, ⟨bk BK607.out⟩, ⟨bp BK613.out⟩, ⟨bl HB.out⟩⟩
  replace c17 := Bool.eq_false_iff.mpr c17
  subst c17
  have H1 : (blotterlaw08_AnchorHolds.j0 k false true a0_0 l0_1 a1_0 a1_1 a1_2 t609 t610 t611) = some r := by rw [if_neg (show ¬ (false = true) by decide)] at H; exact H
  clear H
  have H := H1
  clear H1
  have H' := am H
  clear H
  go_wp2
  go_meet
  case rel => exact ⟨_, (true), (rs), H', ⟨by first | omega | exact Nat.le_refl _⟩, ⟨bk BK606.out⟩, ⟨bk BK607.out⟩, ⟨bp BK613.out⟩, ⟨bl HB.out⟩⟩
 case rest =>
  clear HC5
  try clear c1; try clear p2; try clear c9; try clear c12; try clear c14; try clear c15; try clear c17; try clear hcz10_0; try clear hcz10_1; try clear hcz11_0; try clear hcz11_1; try clear hcz11_2; try clear hcz16_0; try clear hcz16_1; try clear hcz16_2; try clear hfz10_0; try clear hfz10_1; try clear hfz11_0; try clear hfz11_1; try clear hfz11_2; try clear hfz16_0; try clear hfz16_1; try clear hfz16_2
  obtain ⟨kq, x31_4, rfl, HA, HJ4, BK606, BK607, BK613, HB⟩ := hcut
  cases kq with
  | zero => exact absurd HA.out (by simp [blotterlaw08_AnchorHolds.j0])
  | succ kj4 =>
   have H := HA.out
   clear HA
   simp only [blotterlaw08_AnchorHolds.j0] at H
   by_cases c18 : x31_4 = true
   ·subst c18
    have H1 : (if t608 = true then (some (t609 == 0 && (t610 == 0 && (!t611)))) else (none)) = some r := by rw [if_pos rfl] at H; exact H
    clear H
    have H := H1
    clear H1
    by_cases c19 : t608 = true
    ·subst c19
     have H1 : (some (t609 == 0 && (t610 == 0 && (!t611)))) = some r := by rw [if_pos rfl] at H; exact H
     clear H
     have H := H1
     clear H1
     obtain rfl := Option.some.inj H
     have hnb20 := NB613_606.out
     have hnc20 := NB606_613.out
     have hnb21 := NB613_607.out
     have hnc21 := NB607_613.out
     have hcz22_0 : wc.cell? ⟨gb613, 0, none⟩ = some (.int .i64 t609) := (blk_cell BK613.out 0).trans rfl
     have hcz22_1 : wc.cell? ⟨gb613, 1, none⟩ = some (.int .i64 t610) := (blk_cell BK613.out 1).trans rfl
     have hcz22_2 : wc.cell? ⟨gb613, 2, none⟩ = some (.bool t611) := (blk_cell BK613.out 2).trans rfl
     have hfz22_0 := blk_frozen BK613.out 0
     have hfz22_1 := blk_frozen BK613.out 1
     have hfz22_2 := blk_frozen BK613.out 2
     go_wp2
     go_ret
     exact ⟨re, bl HB.out⟩
    replace c19 := Bool.eq_false_iff.mpr c19
    subst c19
    have H1 : (none) = some r := by rw [if_neg (show ¬ (false = true) by decide)] at H; exact H
    clear H
    have H := H1
    clear H1
    exact absurd H (by simp)
   replace c18 := Bool.eq_false_iff.mpr c18
   subst c18
   have H1 : ((change_To.f kj4 a0_0 l0_1).bind fun bt614 => ((anchor_Right.f kj4 t609 t610 t611 bt614.1).bind fun t616 => (if t616 = 0 then (if a1_2 = true then (blotterlaw08_AnchorHolds.j1 kj4 (!t611) a0_0 l0_1 a1_0 a1_1 a1_2 t609 t610 t611) else (blotterlaw08_AnchorHolds.j1 kj4 false a0_0 l0_1 a1_0 a1_1 a1_2 t609 t610 t611)) else (blotterlaw08_AnchorHolds.j1 kj4 true a0_0 l0_1 a1_0 a1_1 a1_2 t609 t610 t611)))) = some r := by rw [if_neg (show ¬ (false = true) by decide)] at H; exact H
   clear H
   have H := H1
   clear H1
   replace H := Option.bind_eq_some_iff.mp H
   obtain ⟨⟨t614, t615⟩, A230, H⟩ := H
   replace H : ((anchor_Right.f kj4 t609 t610 t611 t614).bind fun t616 => (if t616 = 0 then (if a1_2 = true then (blotterlaw08_AnchorHolds.j1 kj4 (!t611) a0_0 l0_1 a1_0 a1_1 a1_2 t609 t610 t611) else (blotterlaw08_AnchorHolds.j1 kj4 false a0_0 l0_1 a1_0 a1_1 a1_2 t609 t610 t611)) else (blotterlaw08_AnchorHolds.j1 kj4 true a0_0 l0_1 a1_0 a1_1 a1_2 t609 t610 t611))) = some r := H
   have A23 := am A230
   clear A230
   replace H := Option.bind_eq_some_iff.mp H
   obtain ⟨t616, A240, H⟩ := H
   replace H : (if t616 = 0 then (if a1_2 = true then (blotterlaw08_AnchorHolds.j1 kj4 (!t611) a0_0 l0_1 a1_0 a1_1 a1_2 t609 t610 t611) else (blotterlaw08_AnchorHolds.j1 kj4 false a0_0 l0_1 a1_0 a1_1 a1_2 t609 t610 t611)) else (blotterlaw08_AnchorHolds.j1 kj4 true a0_0 l0_1 a1_0 a1_1 a1_2 t609 t610 t611)) = some r := H
   have A24 := am A240
   clear A240
   have HC25 := am H
   clear H
   have hnb26 := NB606_607.out
   have hnc26 := NB607_606.out
   have hnb27 := NB606_613.out
   have hnc27 := NB613_606.out
   have hcz28_0 : wc.cell? ⟨gb606, 0, none⟩ = some (.int .i64 a0_0) := (blk_cell BK606.out 0).trans rfl
   have hcz28_1 : wc.cell? ⟨gb606, 1, none⟩ = some (.slice A0_1 l0_1.length c0_1) := (blk_cell BK606.out 1).trans rfl
   have hfz28_0 := blk_frozen BK606.out 0
   have hfz28_1 := blk_frozen BK606.out 1
   go_upto_region 7 with (first | ((with_reducible refine gate_callee (f := 16) rfl ?_); refine goesL_ (some 40) rfl rfl Tryd.func16 (by kernel_rfl) rfl #[.agg #[.int .i64 a0_0, .slice A0_1 l0_1.length c0_1]] rfl (by (try simp only [List.map_toArray, List.map_cons, List.map_nil]); first | done | rfl | (simp only [List.length_drop, List.length_take]; rfl)) ?_; (with_reducible refine (change_To.calls kj4 a0_0 _ _ l0_1 t614 t615 _ ?side1 ?side2 ?side3 A23.out).mono ?_); (case side1 => exact ks (Kd.C_below HR0_1.out HB.out)); (case side2 => exact HC0_1.out); (case side3 => exact Tabs.below HT_.out (bl HB.out)); rintro e w29 ⟨rfl, hb⟩; refine ⟨_, rfl, ?_⟩; have BK606 := am (blk_below (bk BK606.out) hb); have BK607 := am (blk_below (bk BK607.out) hb); have BK613 := am (blk_below (bk BK613.out) hb); have HB := am (below_step (bl HB.out) hb); (try clear hb); (try clear hb2); (try clear hk); (try clear hi); have hnb30 := NB613_607.out; have hnc30 := NB607_613.out; obtain ⟨hcz31_0, hcz31_1, hcz31_2, hfz31_0, hfz31_1, hfz31_2⟩ := bc3 BK613.out) | ((with_reducible refine gate_callee (f := 36) rfl ?_); refine goesL_ (some 45) rfl rfl Tryd.func36 (by kernel_rfl) rfl #[.agg #[.int .i64 t609, .int .i64 t610, .bool t611], .int .i64 t614] rfl (by (try simp only [List.map_toArray, List.map_cons, List.map_nil]); first | done | rfl | (simp only [List.length_drop, List.length_take]; rfl)) ?_; (with_reducible refine (anchor_Right.calls kj4 t609 t610 t611 t614 t616 _ A24.out).mono ?_); rintro e w32 ⟨rfl, hb⟩; refine ⟨_, rfl, ?_⟩; have BK606 := am (blk_below (bk BK606.out) hb); have BK607 := am (blk_below (bk BK607.out) hb); have BK613 := am (blk_below (bk BK613.out) hb); have HB := am (below_step (bl HB.out) hb); (try clear hb); (try clear hb2); (try clear hk); (try clear hi)))
   (try simp only [Act.put, List.setIfInBounds_toArray, List.set_cons_zero, List.set_cons_succ])
   go_cut [56] (fun v56 wc => ∃ (kq : Nat) (x56_24 : Bool), v56 = .bool x56_24 ∧ Aside0 (blotterlaw08_AnchorHolds.j1 kq x56_24 a0_0 l0_1 a1_0 a1_1 a1_2 t609 t610 t611 = some r) ∧ Aside0 (kq ≤ kj4) ∧ Aside0 (wc.heap[gb606]? = some (.cells #[.int .i64 a0_0, (.slice A0_1 l0_1.length c0_1)] 26 (0, 0))) ∧ Aside0 (wc.heap[gb607]? = some (.cells #[.int .i64 a1_0, .int .i64 a1_1, .bool a1_2] 23 (0, 0))) ∧ Aside0 (wc.heap[gb613]? = some (.cells #[.int .i64 t609, .int .i64 t610, .bool t611] 23 (0, 0))) ∧ Aside0 (Below w.heap.size w wc))
   case first =>
    have H := HC25.out
    clear HC25
    by_cases c33 : t616 = 0
    ·rw [if_pos c33] at H
     have c33b0 : (t616 == 0) = true := beq_iff_eq.mpr c33
     have c33b1 : (t616 != 0) = false := bne_eq_false_iff_eq.mpr c33
     clear c33
     (first | rw [c33b0] | (simp only [i64_w, i32_w]; rw [c33b0]) | skip)
     by_cases c34 : a1_2 = true
     ·subst c34
      have H1 : (blotterlaw08_AnchorHolds.j1 kj4 (!t611) a0_0 l0_1 a1_0 a1_1 true t609 t610 t611) = some r := by rw [if_pos rfl] at H; exact H
      clear H
      have H := H1
      clear H1
      have H' := am H
      clear H
      have hnb35 := NB607_606.out
      have hnc35 := NB606_607.out
      have hnb36 := NB607_613.out
      have hnc36 := NB613_607.out
      have hcz37_0 : w32.cell? ⟨gb607, 0, none⟩ = some (.int .i64 a1_0) := (blk_cell BK607.out 0).trans rfl
      have hcz37_1 : w32.cell? ⟨gb607, 1, none⟩ = some (.int .i64 a1_1) := (blk_cell BK607.out 1).trans rfl
      have hcz37_2 : w32.cell? ⟨gb607, 2, none⟩ = some (.bool true) := (blk_cell BK607.out 2).trans rfl
      have hfz37_0 := blk_frozen BK607.out 0
      have hfz37_1 := blk_frozen BK607.out 1
      have hfz37_2 := blk_frozen BK607.out 2
      have hnb38 := NB613_606.out
      have hnc38 := NB606_613.out
      have hcz39_0 : w32.cell? ⟨gb613, 0, none⟩ = some (.int .i64 t609) := (blk_cell BK613.out 0).trans rfl
      have hcz39_1 : w32.cell? ⟨gb613, 1, none⟩ = some (.int .i64 t610) := (blk_cell BK613.out 1).trans rfl
      have hcz39_2 : w32.cell? ⟨gb613, 2, none⟩ = some (.bool t611) := (blk_cell BK613.out 2).trans rfl
      have hfz39_0 := blk_frozen BK613.out 0
      have hfz39_1 := blk_frozen BK613.out 1
      have hfz39_2 := blk_frozen BK613.out 2
      go_wp2
      go_meet
      case rel => exact ⟨_, (!t611), (rs), H', ⟨by have := HJ4.out; first | omega | exact Nat.le_refl _⟩, ⟨bk BK606.out⟩, ⟨bk BK607.out⟩, ⟨bk BK613.out⟩, ⟨bl HB.out⟩⟩
     replace c34 := Bool.eq_false_iff.mpr c34
     subst c34
     have H1 : (blotterlaw08_AnchorHolds.j1 kj4 false a0_0 l0_1 a1_0 a1_1 false t609 t610 t611) = some r := by rw [if_neg (show ¬ (false = true) by decide)] at H; exact H
     clear H
     have H := H1
     clear H1
     have H' := am H
     clear H
     have hnb40 := NB607_606.out
     have hnc40 := NB606_607.out
     have hnb41 := NB607_613.out
     have hnc41 := NB613_607.out
     have hcz42_0 : w32.cell? ⟨gb607, 0, none⟩ = some (.int .i64 a1_0) := (blk_cell BK607.out 0).trans rfl
     have hcz42_1 : w32.cell? ⟨gb607, 1, none⟩ = some (.int .i64 a1_1) := (blk_cell BK607.out 1).trans rfl
     have hcz42_2 : w32.cell? ⟨gb607, 2, none⟩ = some (.bool false) := (blk_cell BK607.out 2).trans rfl
     have hfz42_0 := blk_frozen BK607.out 0
     have hfz42_1 := blk_frozen BK607.out 1
     have hfz42_2 := blk_frozen BK607.out 2
     go_wp2
     go_meet
     case rel => exact ⟨_, (false), (rs), H', ⟨by have := HJ4.out; first | omega | exact Nat.le_refl _⟩, ⟨bk BK606.out⟩, ⟨bk BK607.out⟩, ⟨bk BK613.out⟩, ⟨bl HB.out⟩⟩
    rw [if_neg c33] at H
    have c33b0 : (t616 == 0) = false := beq_eq_false_iff_ne.mpr c33
    have c33b1 : (t616 != 0) = true := bne_iff_ne.mpr c33
    (first | rw [c33b0] | (simp only [i64_w, i32_w]; rw [c33b0]) | skip)
    have H' := am H
    clear H
    go_wp2
    go_meet
    case rel => exact ⟨_, (true), (rs), H', ⟨by have := HJ4.out; first | omega | exact Nat.le_refl _⟩, ⟨bk BK606.out⟩, ⟨bk BK607.out⟩, ⟨bk BK613.out⟩, ⟨bl HB.out⟩⟩
   case rest =>
    clear HC25
    try clear c1; try clear c2; try clear p2; try clear c3; try clear c4; try clear c9; try clear c12; try clear c14; try clear c15; try clear c16; try clear c17; try clear c18; try clear c19; try clear c20; try clear c21; try clear c26; try clear c27; try clear c30; try clear c33; try clear c33b0; try clear c33b1; try clear c34; try clear c35; try clear c36; try clear c38; try clear c40; try clear c41; try clear hcz10_0; try clear hcz10_1; try clear hcz11_0; try clear hcz11_1; try clear hcz11_2; try clear hcz16_0; try clear hcz16_1; try clear hcz16_2; try clear hcz22_0; try clear hcz22_1; try clear hcz22_2; try clear hcz28_0; try clear hcz28_1; try clear hcz31_0; try clear hcz31_1; try clear hcz31_2; try clear hcz37_0; try clear hcz37_1; try clear hcz37_2; try clear hcz39_0; try clear hcz39_1; try clear hcz39_2; try clear hcz42_0; try clear hcz42_1; try clear hcz42_2; try clear hfz10_0; try clear hfz10_1; try clear hfz11_0; try clear hfz11_1; try clear hfz11_2; try clear hfz16_0; try clear hfz16_1; try clear hfz16_2; try clear hfz22_0; try clear hfz22_1; try clear hfz22_2; try clear hfz28_0; try clear hfz28_1; try clear hfz31_0; try clear hfz31_1; try clear hfz31_2; try clear hfz37_0; try clear hfz37_1; try clear hfz37_2; try clear hfz39_0; try clear hfz39_1; try clear hfz39_2; try clear hfz42_0; try clear hfz42_1; try clear hfz42_2; try clear p2
    obtain ⟨kq, x56_24, rfl, HA, HJ24, BK606, BK607, BK613, HB⟩ := hcut
    cases kq with
    | zero => exact absurd HA.out (by simp [blotterlaw08_AnchorHolds.j1])
    | succ kj24 =>
     have H := HA.out
     clear HA
     simp only [blotterlaw08_AnchorHolds.j1] at H
     by_cases c43 : x56_24 = true
     ·subst c43
      have H1 : (none) = some r := by rw [if_pos rfl] at H; exact H
      clear H
      have H := H1
      clear H1
      exact absurd H (by simp)
     replace c43 := Bool.eq_false_iff.mpr c43
     subst c43
     have H1 : ((blotterref06_Atoms.f kj24 a0_0 l0_1).bind fun t617 => (blotterlaw08_AnchorHolds.l0 kj24 t617 0 0 0 0 a1_0 a1_1 a1_2 t609 t610 t611)) = some r := by rw [if_neg (show ¬ (false = true) by decide)] at H; exact H
     clear H
     have H := H1
     clear H1
     replace H := Option.bind_eq_some_iff.mp H
     obtain ⟨t617, A440, H⟩ := H
     replace H : (blotterlaw08_AnchorHolds.l0 kj24 t617 0 0 0 0 a1_0 a1_1 a1_2 t609 t610 t611) = some r := H
     have A44 := am A440
     clear A440
     have H' := am H
     clear H
     have hnb45 := NB606_607.out
     have hnc45 := NB607_606.out
     have hnb46 := NB606_613.out
     have hnc46 := NB613_606.out
     have hcz47_0 : wc.cell? ⟨gb606, 0, none⟩ = some (.int .i64 a0_0) := (blk_cell BK606.out 0).trans rfl
     have hcz47_1 : wc.cell? ⟨gb606, 1, none⟩ = some (.slice A0_1 l0_1.length c0_1) := (blk_cell BK606.out 1).trans rfl
     have hfz47_0 := blk_frozen BK606.out 0
     have hfz47_1 := blk_frozen BK606.out 1
     go_wp2_with (first | ((with_reducible refine gate_callee (f := 38) rfl ?_); refine goesL_ (some 58) rfl rfl Tryd.func38 (by kernel_rfl) rfl #[.agg #[.int .i64 a0_0, .slice A0_1 l0_1.length c0_1]] rfl (by (try simp only [List.map_toArray, List.map_cons, List.map_nil]); first | done | rfl | (simp only [List.length_drop, List.length_take]; rfl)) ?_; (with_reducible refine (blotterref06_Atoms.calls kj24 a0_0 _ _ l0_1 t617 _ ?side1 ?side2 A44.out).mono ?_); (case side1 => exact ks (Kd.C_below HR0_1.out HB.out)); (case side2 => exact HC0_1.out); rintro e w48 ⟨v618, rfl, ho0, hb⟩; refine ⟨_, rfl, ?_⟩; have HO619 := am (Kd.N_lower (Kd.N_mono (ok' := fun k_ => k_ ≠ gb606 ∧ k_ ≠ gb607 ∧ k_ ≠ gb613) ho0 (fun k_ hk_ => ⟨(Kd.freshB (g := gb606) (o := .cells #[.int .i64 a0_0, .slice A0_1 l0_1.length c0_1] 26 (0, 0)) (bk BK606.out) k_ hk_), (Kd.freshB (g := gb607) (o := .cells #[.int .i64 a1_0, .int .i64 a1_1, .bool a1_2] 23 (0, 0)) (bk BK607.out) k_ hk_), (Kd.freshB (g := gb613) (o := .cells #[.int .i64 t609, .int .i64 t610, .bool t611] 23 (0, 0)) (bk BK613.out) k_ hk_)⟩)) (below_size (bl HB.out))); have BK606 := am (blk_below (bk BK606.out) hb); have BK607 := am (blk_below (bk BK607.out) hb); have BK613 := am (blk_below (bk BK613.out) hb); have HB := am (below_step (bl HB.out) hb); (try clear hb); (try clear hb2); (try clear hk); (try clear hi); (try clear ho0)))
     go_loopg [12, 13, 14, 15] kj24 (fun kq v12 v13 v14 v15 w' => ∃ (x12_3 : Int) (x13_3 : Int) (x14_3 : Int) (x15_3 : Int), v12 = .int .i64 x12_3 ∧ v13 = .int .i64 x13_3 ∧ v14 = .int .i64 x14_3 ∧ v15 = .int .i64 x15_3 ∧ Aside0 (blotterlaw08_AnchorHolds.l0 kq t617 x12_3 x13_3 x14_3 x15_3 a1_0 a1_1 a1_2 t609 t610 t611 = some r) ∧ Aside0 (kq ≤ kj24) ∧ Aside0 (Kd.N k43 43 w' w.heap.size (fun k_ => k_ ≠ gb606 ∧ k_ ≠ gb607 ∧ k_ ≠ gb613) v618 t617) ∧ Aside0 (w'.heap[gb606]? = some (.cells #[.int .i64 a0_0, (.slice A0_1 l0_1.length c0_1)] 26 (0, 0))) ∧ Aside0 (w'.heap[gb607]? = some (.cells #[.int .i64 a1_0, .int .i64 a1_1, .bool a1_2] 23 (0, 0))) ∧ Aside0 (w'.heap[gb613]? = some (.cells #[.int .i64 t609, .int .i64 t610, .bool t611] 23 (0, 0))) ∧ Aside0 (Below w.heap.size w w'))
     case atStart => exact ⟨(0), (0), (0), (0), (rs), (rs), (rs), (rs), H', ⟨Nat.le_refl _⟩, ⟨ks HO619.out⟩, ⟨bk BK606.out⟩, ⟨bk BK607.out⟩, ⟨bk BK613.out⟩, ⟨bl HB.out⟩⟩
     case round =>
      clear H'
      try clear c1; try clear c2; try clear p2; try clear c3; try clear c4; try clear c9; try clear c12; try clear c14; try clear c15; try clear c16; try clear c17; try clear c18; try clear c19; try clear c20; try clear c21; try clear c26; try clear c27; try clear c30; try clear c33; try clear c33b0; try clear c33b1; try clear c34; try clear c35; try clear c36; try clear c38; try clear c40; try clear c41; try clear c43; try clear c45; try clear c46; try clear hcz10_0; try clear hcz10_1; try clear hcz11_0; try clear hcz11_1; try clear hcz11_2; try clear hcz16_0; try clear hcz16_1; try clear hcz16_2; try clear hcz22_0; try clear hcz22_1; try clear hcz22_2; try clear hcz28_0; try clear hcz28_1; try clear hcz31_0; try clear hcz31_1; try clear hcz31_2; try clear hcz37_0; try clear hcz37_1; try clear hcz37_2; try clear hcz39_0; try clear hcz39_1; try clear hcz39_2; try clear hcz42_0; try clear hcz42_1; try clear hcz42_2; try clear hcz47_0; try clear hcz47_1; try clear hfz10_0; try clear hfz10_1; try clear hfz11_0; try clear hfz11_1; try clear hfz11_2; try clear hfz16_0; try clear hfz16_1; try clear hfz16_2; try clear hfz22_0; try clear hfz22_1; try clear hfz22_2; try clear hfz28_0; try clear hfz28_1; try clear hfz31_0; try clear hfz31_1; try clear hfz31_2; try clear hfz37_0; try clear hfz37_1; try clear hfz37_2; try clear hfz39_0; try clear hfz39_1; try clear hfz39_2; try clear hfz42_0; try clear hfz42_1; try clear hfz42_2; try clear hfz47_0; try clear hfz47_1; try clear p2
      obtain ⟨x12_3, x13_3, x14_3, x15_3, rfl, rfl, rfl, rfl, HA, HK3, HO_11, BK606, BK607, BK613, HB⟩ := hrel
      cases gk with
      | zero => exact absurd HA.out (by simp [blotterlaw08_AnchorHolds.l0])
      | succ k3 =>
       have H := HA.out
       clear HA
       simp only [blotterlaw08_AnchorHolds.l0] at H
       by_cases c49 : x15_3 < (t617.length : Int)
       ·rw [if_pos c49] at H
        have c49b0 : decide (x15_3 < (t617.length : Int)) = true := decide_eq_true c49
        clear c49
        have HC50 := am H
        clear H
        obtain ⟨Ao51, co51, eo51⟩ := Kd.N_slice HO_11.out
        subst eo51
        go_upto_region 16 with (fail)
        go_cut [16] (fun v16 wc => ∃ (kq : Nat) (x16_49 : Bool), v16 = .bool x16_49 ∧ Aside0 (blotterlaw08_AnchorHolds.j3 kq t617 x12_3 x13_3 x14_3 x15_3 x16_49 a1_0 a1_1 a1_2 t609 t610 t611 = some r) ∧ Aside0 (kq ≤ k3) ∧ Aside0 (Kd.N k43 43 wc w.heap.size (fun k_ => k_ ≠ gb606 ∧ k_ ≠ gb607 ∧ k_ ≠ gb613) (.slice Ao51 t617.length co51) t617) ∧ Aside0 (wc.heap[gb606]? = some (.cells #[.int .i64 a0_0, (.slice A0_1 l0_1.length c0_1)] 26 (0, 0))) ∧ Aside0 (wc.heap[gb607]? = some (.cells #[.int .i64 a1_0, .int .i64 a1_1, .bool a1_2] 23 (0, 0))) ∧ Aside0 (wc.heap[gb613]? = some (.cells #[.int .i64 t609, .int .i64 t610, .bool t611] 23 (0, 0))) ∧ Aside0 (Below w.heap.size w wc))
        case first =>
         have H := HC50.out
         clear HC50
         by_cases c52 : x13_3 ≥ t609
         ·rw [if_pos c52] at H
          have c52b0 : decide (t609 ≤ x13_3) = true := decide_eq_true c52
          clear c52
          (first | rw [c52b0] | (simp only [i64_w, i32_w]; rw [c52b0]) | skip)
          have H' := am H
          clear H
          have hnb53 := NB613_606.out
          have hnc53 := NB606_613.out
          have hnb54 := NB613_607.out
          have hnc54 := NB607_613.out
          have hcz55_0 : wr.cell? ⟨gb613, 0, none⟩ = some (.int .i64 t609) := (blk_cell BK613.out 0).trans rfl
          have hcz55_1 : wr.cell? ⟨gb613, 1, none⟩ = some (.int .i64 t610) := (blk_cell BK613.out 1).trans rfl
          have hcz55_2 : wr.cell? ⟨gb613, 2, none⟩ = some (.bool t611) := (blk_cell BK613.out 2).trans rfl
          have hfz55_0 := blk_frozen BK613.out 0
          have hfz55_1 := blk_frozen BK613.out 1
          have hfz55_2 := blk_frozen BK613.out 2
          go_wp2
          go_meet
          case rel => exact ⟨_, (decide (x13_3 < t610)), (rs), H', ⟨by have := HJ4.out; have := HJ24.out; have := HK3.out; first | omega | exact Nat.le_refl _⟩, ⟨ks HO_11.out⟩, ⟨bk BK606.out⟩, ⟨bk BK607.out⟩, ⟨bk BK613.out⟩, ⟨bl HB.out⟩⟩
         rw [if_neg c52] at H
         have c52b0 : decide (t609 ≤ x13_3) = false := decide_eq_false c52
         clear c52
         (first | rw [c52b0] | (simp only [i64_w, i32_w]; rw [c52b0]) | skip)
         have H' := am H
         clear H
         have hnb56 := NB613_606.out
         have hnc56 := NB606_613.out
         have hnb57 := NB613_607.out
         have hnc57 := NB607_613.out
         have hcz58_0 : wr.cell? ⟨gb613, 0, none⟩ = some (.int .i64 t609) := (blk_cell BK613.out 0).trans rfl
         have hcz58_1 : wr.cell? ⟨gb613, 1, none⟩ = some (.int .i64 t610) := (blk_cell BK613.out 1).trans rfl
         have hcz58_2 : wr.cell? ⟨gb613, 2, none⟩ = some (.bool t611) := (blk_cell BK613.out 2).trans rfl
         have hfz58_0 := blk_frozen BK613.out 0
         have hfz58_1 := blk_frozen BK613.out 1
         have hfz58_2 := blk_frozen BK613.out 2
         go_wp2
         go_meet
         case rel => exact ⟨_, (false), (rs), H', ⟨by have := HJ4.out; have := HJ24.out; have := HK3.out; first | omega | exact Nat.le_refl _⟩, ⟨ks HO_11.out⟩, ⟨bk BK606.out⟩, ⟨bk BK607.out⟩, ⟨bk BK613.out⟩, ⟨bl HB.out⟩⟩
        case rest =>
         clear HC50
         try clear c1; try clear c2; try clear p2; try clear c3; try clear c4; try clear c5; try clear c9; try clear c12; try clear c14; try clear c15; try clear c16; try clear c17; try clear c18; try clear c19; try clear c20; try clear c21; try clear c26; try clear c27; try clear c30; try clear c33; try clear c33b0; try clear c33b1; try clear c34; try clear c35; try clear c36; try clear c38; try clear c40; try clear c41; try clear c43; try clear c45; try clear c46; try clear c49; try clear c49b0; try clear c52; try clear c52b0; try clear c53; try clear c54; try clear c56; try clear c57; try clear hcz10_0; try clear hcz10_1; try clear hcz11_0; try clear hcz11_1; try clear hcz11_2; try clear hcz16_0; try clear hcz16_1; try clear hcz16_2; try clear hcz22_0; try clear hcz22_1; try clear hcz22_2; try clear hcz28_0; try clear hcz28_1; try clear hcz31_0; try clear hcz31_1; try clear hcz31_2; try clear hcz37_0; try clear hcz37_1; try clear hcz37_2; try clear hcz39_0; try clear hcz39_1; try clear hcz39_2; try clear hcz42_0; try clear hcz42_1; try clear hcz42_2; try clear hcz47_0; try clear hcz47_1; try clear hcz55_0; try clear hcz55_1; try clear hcz55_2; try clear hcz58_0; try clear hcz58_1; try clear hcz58_2; try clear hfz10_0; try clear hfz10_1; try clear hfz11_0; try clear hfz11_1; try clear hfz11_2; try clear hfz16_0; try clear hfz16_1; try clear hfz16_2; try clear hfz22_0; try clear hfz22_1; try clear hfz22_2; try clear hfz28_0; try clear hfz28_1; try clear hfz31_0; try clear hfz31_1; try clear hfz31_2; try clear hfz37_0; try clear hfz37_1; try clear hfz37_2; try clear hfz39_0; try clear hfz39_1; try clear hfz39_2; try clear hfz42_0; try clear hfz42_1; try clear hfz42_2; try clear hfz47_0; try clear hfz47_1; try clear hfz55_0; try clear hfz55_1; try clear hfz55_2; try clear hfz58_0; try clear hfz58_1; try clear hfz58_2; try clear p2
         obtain ⟨kq, x16_49, rfl, HA, HJ49, HO_11, BK606, BK607, BK613, HB⟩ := hcut
         cases kq with
         | zero => exact absurd HA.out (by simp [blotterlaw08_AnchorHolds.j3])
         | succ kj49 =>
          have H := HA.out
          clear HA
          simp only [blotterlaw08_AnchorHolds.j3] at H
          by_cases c59 : 0 ≤ x15_3
          ·rw [if_pos c59] at H
           have c59b0 : decide (0 ≤ x15_3) = true := decide_eq_true c59
           clear c59
           by_cases c60 : x15_3 < (t617.length : Int)
           ·rw [if_pos c60] at H
            have c60b0 : decide (x15_3 < (t617.length : Int)) = true := decide_eq_true c60
            clear c60
            by_cases c61 : ((rd_T43 t617 x15_3).f0) = 3
            ·rw [if_pos c61] at H
             have c61b0 : (((rd_T43 t617 x15_3).f0) == 3) = true := beq_iff_eq.mpr c61
             have c61b1 : (((rd_T43 t617 x15_3).f0) != 3) = false := bne_eq_false_iff_eq.mpr c61
             clear c61
             have H' := am H
             clear H
             have p620 : 0 ≤ (x15_3 : Int) := oda
             have q620 : x15_3 < (t617.length : Int) := oda
             obtain ⟨ad620, A620_3, c620_3, e620, hx620_0, hx620_1, hx620_2, hx620_3, hl620_3, hi620_3⟩ := at_T43 (Kd.N_reads' HO_11.out).2.2 x15_3 p620 q620
             cases e620
             obtain ⟨ce620, hce620, hMe620, hcc620⟩ := Kd.N_get HO_11.out z43 x15_3 p620 (by first | exact q620 | exact oda | (have e_ := (Kd.N_reads' HO_11.out).1; omega))
             obtain ⟨ua620_3, uc620_3, rfl, ul620_3, ge620_3⟩ := k43_openF hMe620
             have hv620_3 := hcc620 3 _ rfl
             rw [add_field _ _ 3 (by omega)] at hv620_3
             replace hv620_3 := Option.some.inj (hv620_3.symm.trans hx620_3)
             injection hv620_3 with hva_ hvn_ hvc_
             rw [hva_] at ge620_3
             rw [hvc_] at ul620_3
             have HL620_3 := am (show Kd.V k90 90 _ w.heap.size _ _ ((rd_T43 t617 x15_3).f3) from Kd.V_mk ul620_3 ge620_3)
             clear hva_ hvn_ hvc_ ge620_3 ul620_3
             clear hcc620 hce620
             have HR620_3 := am hi620_3
             have HC620_3 := am hl620_3
             clear hi620_3 hl620_3
             replace p620 := eq_true p620
             replace q620 := eq_true q620
             go_wp2
             go_roundg kj49
             case measure => have := HJ4.out; have := HJ24.out; have := HK3.out; have := HJ49.out; omega
             case rel => exact ⟨(wrap64 (x12_3 + 1)), (x13_3), (x14_3), (wrap64 (x15_3 + 1)), (rs), (rs), (rs), (rs), H', ⟨by have := HJ4.out; have := HJ24.out; have := HK3.out; have := HJ49.out; omega⟩, ⟨ks HO_11.out⟩, ⟨bk BK606.out⟩, ⟨bk BK607.out⟩, ⟨bk BK613.out⟩, ⟨bl HB.out⟩⟩
            rw [if_neg c61] at H
            have c61b0 : (((rd_T43 t617 x15_3).f0) == 3) = false := beq_eq_false_iff_ne.mpr c61
            have c61b1 : (((rd_T43 t617 x15_3).f0) != 3) = true := bne_iff_ne.mpr c61
            by_cases c62 : ((rd_T43 t617 x15_3).f0) = 2
            ·rw [if_pos c62] at H
             have c62b0 : (((rd_T43 t617 x15_3).f0) == 2) = true := beq_iff_eq.mpr c62
             have c62b1 : (((rd_T43 t617 x15_3).f0) != 2) = false := bne_eq_false_iff_eq.mpr c62
             clear c62
             have HC63 := am H
             clear H
             have p620 : 0 ≤ (x15_3 : Int) := oda
             have q620 : x15_3 < (t617.length : Int) := oda
             obtain ⟨ad620, A620_3, c620_3, e620, hx620_0, hx620_1, hx620_2, hx620_3, hl620_3, hi620_3⟩ := at_T43 (Kd.N_reads' HO_11.out).2.2 x15_3 p620 q620
             cases e620
             obtain ⟨ce620, hce620, hMe620, hcc620⟩ := Kd.N_get HO_11.out z43 x15_3 p620 (by first | exact q620 | exact oda | (have e_ := (Kd.N_reads' HO_11.out).1; omega))
             obtain ⟨ua620_3, uc620_3, rfl, ul620_3, ge620_3⟩ := k43_openF hMe620
             have hv620_3 := hcc620 3 _ rfl
             rw [add_field _ _ 3 (by omega)] at hv620_3
             replace hv620_3 := Option.some.inj (hv620_3.symm.trans hx620_3)
             injection hv620_3 with hva_ hvn_ hvc_
             rw [hva_] at ge620_3
             rw [hvc_] at ul620_3
             have HL620_3 := am (show Kd.V k90 90 _ w.heap.size _ _ ((rd_T43 t617 x15_3).f3) from Kd.V_mk ul620_3 ge620_3)
             clear hva_ hvn_ hvc_ ge620_3 ul620_3
             clear hcc620 hce620
             have HR620_3 := am hi620_3
             have HC620_3 := am hl620_3
             clear hi620_3 hl620_3
             replace p620 := eq_true p620
             replace q620 := eq_true q620
             go_upto_region 28 with (fail)
             go_cut [17] (fun v17 wc => ∃ (kq : Nat) (x17_62 : Bool), v17 = .bool x17_62 ∧ Aside0 (blotterlaw08_AnchorHolds.j4 kq t617 x12_3 x13_3 x14_3 x15_3 x16_49 x17_62 a1_0 a1_1 a1_2 t609 t610 t611 = some r) ∧ Aside0 (kq ≤ kj49) ∧ Aside0 (Kd.N k43 43 wc w.heap.size (fun k_ => k_ ≠ gb606 ∧ k_ ≠ gb607 ∧ k_ ≠ gb613) (.slice (some ad620) t617.length co51) t617) ∧ Aside0 (wc.heap[gb606]? = some (.cells #[.int .i64 a0_0, (.slice A0_1 l0_1.length c0_1)] 26 (0, 0))) ∧ Aside0 (wc.heap[gb607]? = some (.cells #[.int .i64 a1_0, .int .i64 a1_1, .bool a1_2] 23 (0, 0))) ∧ Aside0 (wc.heap[gb613]? = some (.cells #[.int .i64 t609, .int .i64 t610, .bool t611] 23 (0, 0))) ∧ Aside0 (Kd.C k90 wc A620_3 ((rd_T43 t617 x15_3).f3).length ((rd_T43 t617 x15_3).f3)) ∧ Aside0 (Below w.heap.size w wc))
             case first =>
              have H := HC63.out
              clear HC63
              by_cases c64 : a1_2 = true
              ·subst c64
               have H1 : (blotterlaw08_AnchorHolds.j4 kj49 t617 x12_3 x13_3 x14_3 x15_3 x16_49 false a1_0 a1_1 true t609 t610 t611) = some r := by rw [if_pos rfl] at H; exact H
               clear H
               have H := H1
               clear H1
               have H' := am H
               clear H
               have hnb65 := NB607_606.out
               have hnc65 := NB606_607.out
               have hnb66 := NB607_613.out
               have hnc66 := NB613_607.out
               have hcz67_0 : wc.cell? ⟨gb607, 0, none⟩ = some (.int .i64 a1_0) := (blk_cell BK607.out 0).trans rfl
               have hcz67_1 : wc.cell? ⟨gb607, 1, none⟩ = some (.int .i64 a1_1) := (blk_cell BK607.out 1).trans rfl
               have hcz67_2 : wc.cell? ⟨gb607, 2, none⟩ = some (.bool true) := (blk_cell BK607.out 2).trans rfl
               have hfz67_0 := blk_frozen BK607.out 0
               have hfz67_1 := blk_frozen BK607.out 1
               have hfz67_2 := blk_frozen BK607.out 2
               go_wp2
               go_meet
               case rel => exact ⟨_, (false), (rs), H', ⟨by have := HJ4.out; have := HJ24.out; have := HK3.out; have := HJ49.out; first | omega | exact Nat.le_refl _⟩, ⟨ks HO_11.out⟩, ⟨bk BK606.out⟩, ⟨bk BK607.out⟩, ⟨bk BK613.out⟩, ⟨by repeat (first | (with_reducible exact HR620_3.out) | (with_reducible refine Kd.C_alloc ?_ _) | (with_reducible refine Kd.C_drewN ?_ _) | (with_reducible refine Kd.C_drew ?_) | exact HR620_3.out)⟩, ⟨bl HB.out⟩⟩
              replace c64 := Bool.eq_false_iff.mpr c64
              subst c64
              have H1 : (if x12_3 > a1_0 then (blotterlaw08_AnchorHolds.j4 kj49 t617 x12_3 x13_3 x14_3 x15_3 x16_49 (decide (x12_3 < a1_1)) a1_0 a1_1 false t609 t610 t611) else (blotterlaw08_AnchorHolds.j4 kj49 t617 x12_3 x13_3 x14_3 x15_3 x16_49 false a1_0 a1_1 false t609 t610 t611)) = some r := by rw [if_neg (show ¬ (false = true) by decide)] at H; exact H
              clear H
              have H := H1
              clear H1
              by_cases c68 : x12_3 > a1_0
              ·rw [if_pos c68] at H
               have c68b0 : decide (a1_0 < x12_3) = true := decide_eq_true c68
               clear c68
               (first | rw [c68b0] | (simp only [i64_w, i32_w]; rw [c68b0]) | skip)
               have H' := am H
               clear H
               have hnb69 := NB607_606.out
               have hnc69 := NB606_607.out
               have hnb70 := NB607_613.out
               have hnc70 := NB613_607.out
               have hcz71_0 : wc.cell? ⟨gb607, 0, none⟩ = some (.int .i64 a1_0) := (blk_cell BK607.out 0).trans rfl
               have hcz71_1 : wc.cell? ⟨gb607, 1, none⟩ = some (.int .i64 a1_1) := (blk_cell BK607.out 1).trans rfl
               have hcz71_2 : wc.cell? ⟨gb607, 2, none⟩ = some (.bool false) := (blk_cell BK607.out 2).trans rfl
               have hfz71_0 := blk_frozen BK607.out 0
               have hfz71_1 := blk_frozen BK607.out 1
               have hfz71_2 := blk_frozen BK607.out 2
               go_wp2
               go_meet
               case rel => exact ⟨_, (decide (x12_3 < a1_1)), (rs), H', ⟨by have := HJ4.out; have := HJ24.out; have := HK3.out; have := HJ49.out; first | omega | exact Nat.le_refl _⟩, ⟨ks HO_11.out⟩, ⟨bk BK606.out⟩, ⟨bk BK607.out⟩, ⟨bk BK613.out⟩, ⟨by repeat (first | (with_reducible exact HR620_3.out) | (with_reducible refine Kd.C_alloc ?_ _) | (with_reducible refine Kd.C_drewN ?_ _) | (with_reducible refine Kd.C_drew ?_) | exact HR620_3.out)⟩, ⟨bl HB.out⟩⟩
              rw [if_neg c68] at H
              have c68b0 : decide (a1_0 < x12_3) = false := decide_eq_false c68
              clear c68
              (first | rw [c68b0] | (simp only [i64_w, i32_w]; rw [c68b0]) | skip)
              have H' := am H
              clear H
              have hnb72 := NB607_606.out
              have hnc72 := NB606_607.out
              have hnb73 := NB607_613.out
              have hnc73 := NB613_607.out
              have hcz74_0 : wc.cell? ⟨gb607, 0, none⟩ = some (.int .i64 a1_0) := (blk_cell BK607.out 0).trans rfl
              have hcz74_1 : wc.cell? ⟨gb607, 1, none⟩ = some (.int .i64 a1_1) := (blk_cell BK607.out 1).trans rfl
              have hcz74_2 : wc.cell? ⟨gb607, 2, none⟩ = some (.bool false) := (blk_cell BK607.out 2).trans rfl
              have hfz74_0 := blk_frozen BK607.out 0
              have hfz74_1 := blk_frozen BK607.out 1
              have hfz74_2 := blk_frozen BK607.out 2
              go_wp2
              go_meet
              case rel => exact ⟨_, (false), (rs), H', ⟨by have := HJ4.out; have := HJ24.out; have := HK3.out; have := HJ49.out; first | omega | exact Nat.le_refl _⟩, ⟨ks HO_11.out⟩, ⟨bk BK606.out⟩, ⟨bk BK607.out⟩, ⟨bk BK613.out⟩, ⟨by repeat (first | (with_reducible exact HR620_3.out) | (with_reducible refine Kd.C_alloc ?_ _) | (with_reducible refine Kd.C_drewN ?_ _) | (with_reducible refine Kd.C_drew ?_) | exact HR620_3.out)⟩, ⟨bl HB.out⟩⟩
             case rest =>
              clear HC63
              try clear c1; try clear c2; try clear p2; try clear c3; try clear c4; try clear c5; try clear c6; try clear p6; try clear q6; try clear hx6; try clear c7; try clear c9; try clear c12; try clear c14; try clear c15; try clear c16; try clear c17; try clear c18; try clear c19; try clear c20; try clear c21; try clear c26; try clear c27; try clear c30; try clear c33; try clear c33b0; try clear c33b1; try clear c34; try clear c35; try clear c36; try clear c38; try clear c40; try clear c41; try clear c43; try clear c45; try clear c46; try clear c49; try clear c49b0; try clear c52; try clear c52b0; try clear c53; try clear c54; try clear c56; try clear c57; try clear c59; try clear c59b0; try clear c60; try clear c60b0; try clear c61; try clear c61b0; try clear c61b1; try clear c62; try clear c62b0; try clear c62b1; try clear p62; try clear q62; try clear hx62; try clear c64; try clear p64; try clear c65; try clear c66; try clear c68; try clear c68b0; try clear c69; try clear c70; try clear c72; try clear c73; try clear hcz10_0; try clear hcz10_1; try clear hcz11_0; try clear hcz11_1; try clear hcz11_2; try clear hcz16_0; try clear hcz16_1; try clear hcz16_2; try clear hcz22_0; try clear hcz22_1; try clear hcz22_2; try clear hcz28_0; try clear hcz28_1; try clear hcz31_0; try clear hcz31_1; try clear hcz31_2; try clear hcz37_0; try clear hcz37_1; try clear hcz37_2; try clear hcz39_0; try clear hcz39_1; try clear hcz39_2; try clear hcz42_0; try clear hcz42_1; try clear hcz42_2; try clear hcz47_0; try clear hcz47_1; try clear hcz55_0; try clear hcz55_1; try clear hcz55_2; try clear hcz58_0; try clear hcz58_1; try clear hcz58_2; try clear hcz67_0; try clear hcz67_1; try clear hcz67_2; try clear hcz71_0; try clear hcz71_1; try clear hcz71_2; try clear hcz74_0; try clear hcz74_1; try clear hcz74_2; try clear hfz10_0; try clear hfz10_1; try clear hfz11_0; try clear hfz11_1; try clear hfz11_2; try clear hfz16_0; try clear hfz16_1; try clear hfz16_2; try clear hfz22_0; try clear hfz22_1; try clear hfz22_2; try clear hfz28_0; try clear hfz28_1; try clear hfz31_0; try clear hfz31_1; try clear hfz31_2; try clear hfz37_0; try clear hfz37_1; try clear hfz37_2; try clear hfz39_0; try clear hfz39_1; try clear hfz39_2; try clear hfz42_0; try clear hfz42_1; try clear hfz42_2; try clear hfz47_0; try clear hfz47_1; try clear hfz55_0; try clear hfz55_1; try clear hfz55_2; try clear hfz58_0; try clear hfz58_1; try clear hfz58_2; try clear hfz67_0; try clear hfz67_1; try clear hfz67_2; try clear hfz71_0; try clear hfz71_1; try clear hfz71_2; try clear hfz74_0; try clear hfz74_1; try clear hfz74_2; try clear hx620_0; try clear hx620_1; try clear hx620_2; try clear hx620_3; try clear p2; try clear p620; try clear q620
              obtain ⟨kq, x17_62, rfl, HA, HJ62, HO_11, BK606, BK607, BK613, HR620_3, HB⟩ := hcut
              cases kq with
              | zero => exact absurd HA.out (by simp [blotterlaw08_AnchorHolds.j4])
              | succ kj62 =>
               have H := HA.out
               clear HA
               simp only [blotterlaw08_AnchorHolds.j4] at H
               by_cases c75 : (x17_62 != x16_49) = true
               ·rw [if_pos c75] at H
                exact absurd H (by simp)
               rw [if_neg c75] at H
               have c75b0 : (x17_62 != x16_49) = false := by simpa using c75
               (try (have c75b1 : decide (x17_62 = x16_49) = true := by simpa using c75))
               (try (have c75b2 : (x17_62 == x16_49) = true := by simpa using c75))
               clear c75
               by_cases c76 : x17_62 = true
               ·subst c76
                have H1 : (blotterlaw08_AnchorHolds.l0 kj62 t617 x12_3 (wrap64 (x13_3 + 1)) (wrap64 (x14_3 + 1)) (wrap64 (x15_3 + 1)) a1_0 a1_1 a1_2 t609 t610 t611) = some r := by rw [if_pos rfl] at H; exact H
                clear H
                have H := H1
                clear H1
                have H' := am H
                clear H
                go_wp2
                go_roundg kj62
                case measure => have := HJ4.out; have := HJ24.out; have := HK3.out; have := HJ49.out; have := HJ62.out; omega
                case rel => exact ⟨(x12_3), (wrap64 (x13_3 + 1)), (wrap64 (x14_3 + 1)), (wrap64 (x15_3 + 1)), (rs), (rs), (rs), (rs), H', ⟨by have := HJ4.out; have := HJ24.out; have := HK3.out; have := HJ49.out; have := HJ62.out; omega⟩, ⟨ks HO_11.out⟩, ⟨bk BK606.out⟩, ⟨bk BK607.out⟩, ⟨bk BK613.out⟩, ⟨bl HB.out⟩⟩
               replace c76 := Bool.eq_false_iff.mpr c76
               subst c76
               have H1 : (blotterlaw08_AnchorHolds.l0 kj62 t617 x12_3 (wrap64 (x13_3 + 1)) x14_3 (wrap64 (x15_3 + 1)) a1_0 a1_1 a1_2 t609 t610 t611) = some r := by rw [if_neg (show ¬ (false = true) by decide)] at H; exact H
               clear H
               have H := H1
               clear H1
               have H' := am H
               clear H
               go_wp2
               go_roundg kj62
               case measure => have := HJ4.out; have := HJ24.out; have := HK3.out; have := HJ49.out; have := HJ62.out; omega
               case rel => exact ⟨(x12_3), (wrap64 (x13_3 + 1)), (x14_3), (wrap64 (x15_3 + 1)), (rs), (rs), (rs), (rs), H', ⟨by have := HJ4.out; have := HJ24.out; have := HK3.out; have := HJ49.out; have := HJ62.out; omega⟩, ⟨ks HO_11.out⟩, ⟨bk BK606.out⟩, ⟨bk BK607.out⟩, ⟨bk BK613.out⟩, ⟨bl HB.out⟩⟩
            rw [if_neg c62] at H
            have c62b0 : (((rd_T43 t617 x15_3).f0) == 2) = false := beq_eq_false_iff_ne.mpr c62
            have c62b1 : (((rd_T43 t617 x15_3).f0) != 2) = true := bne_iff_ne.mpr c62
            have HC77 := am H
            clear H
            have p620 : 0 ≤ (x15_3 : Int) := oda
            have q620 : x15_3 < (t617.length : Int) := oda
            obtain ⟨ad620, A620_3, c620_3, e620, hx620_0, hx620_1, hx620_2, hx620_3, hl620_3, hi620_3⟩ := at_T43 (Kd.N_reads' HO_11.out).2.2 x15_3 p620 q620
            cases e620
            obtain ⟨ce620, hce620, hMe620, hcc620⟩ := Kd.N_get HO_11.out z43 x15_3 p620 (by first | exact q620 | exact oda | (have e_ := (Kd.N_reads' HO_11.out).1; omega))
            obtain ⟨ua620_3, uc620_3, rfl, ul620_3, ge620_3⟩ := k43_openF hMe620
            have hv620_3 := hcc620 3 _ rfl
            rw [add_field _ _ 3 (by omega)] at hv620_3
            replace hv620_3 := Option.some.inj (hv620_3.symm.trans hx620_3)
            injection hv620_3 with hva_ hvn_ hvc_
            rw [hva_] at ge620_3
            rw [hvc_] at ul620_3
            have HL620_3 := am (show Kd.V k90 90 _ w.heap.size _ _ ((rd_T43 t617 x15_3).f3) from Kd.V_mk ul620_3 ge620_3)
            clear hva_ hvn_ hvc_ ge620_3 ul620_3
            clear hcc620 hce620
            have HR620_3 := am hi620_3
            have HC620_3 := am hl620_3
            clear hi620_3 hl620_3
            replace p620 := eq_true p620
            replace q620 := eq_true q620
            go_upto_region 18 with (fail)
            go_cut [18] (fun v18 wc => ∃ (kq : Nat) (x18_76 : Bool), v18 = .bool x18_76 ∧ Aside0 (blotterlaw08_AnchorHolds.j5 kq t617 x12_3 x13_3 x14_3 x15_3 x16_49 x18_76 a1_0 a1_1 a1_2 t609 t610 t611 = some r) ∧ Aside0 (kq ≤ kj49) ∧ Aside0 (Kd.N k43 43 wc w.heap.size (fun k_ => k_ ≠ gb606 ∧ k_ ≠ gb607 ∧ k_ ≠ gb613) (.slice (some ad620) t617.length co51) t617) ∧ Aside0 (wc.heap[gb606]? = some (.cells #[.int .i64 a0_0, (.slice A0_1 l0_1.length c0_1)] 26 (0, 0))) ∧ Aside0 (wc.heap[gb607]? = some (.cells #[.int .i64 a1_0, .int .i64 a1_1, .bool a1_2] 23 (0, 0))) ∧ Aside0 (wc.heap[gb613]? = some (.cells #[.int .i64 t609, .int .i64 t610, .bool t611] 23 (0, 0))) ∧ Aside0 (Kd.C k90 wc A620_3 ((rd_T43 t617 x15_3).f3).length ((rd_T43 t617 x15_3).f3)) ∧ Aside0 (Below w.heap.size w wc))
            case first =>
             have H := HC77.out
             clear HC77
             by_cases c78 : a1_2 = true
             ·subst c78
              have H1 : (blotterlaw08_AnchorHolds.j5 kj49 t617 x12_3 x13_3 x14_3 x15_3 x16_49 false a1_0 a1_1 true t609 t610 t611) = some r := by rw [if_pos rfl] at H; exact H
              clear H
              have H := H1
              clear H1
              have H' := am H
              clear H
              have hnb79 := NB607_606.out
              have hnc79 := NB606_607.out
              have hnb80 := NB607_613.out
              have hnc80 := NB613_607.out
              have hcz81_0 : wc.cell? ⟨gb607, 0, none⟩ = some (.int .i64 a1_0) := (blk_cell BK607.out 0).trans rfl
              have hcz81_1 : wc.cell? ⟨gb607, 1, none⟩ = some (.int .i64 a1_1) := (blk_cell BK607.out 1).trans rfl
              have hcz81_2 : wc.cell? ⟨gb607, 2, none⟩ = some (.bool true) := (blk_cell BK607.out 2).trans rfl
              have hfz81_0 := blk_frozen BK607.out 0
              have hfz81_1 := blk_frozen BK607.out 1
              have hfz81_2 := blk_frozen BK607.out 2
              go_wp2
              go_meet
              case rel => exact ⟨_, (false), (rs), H', ⟨by have := HJ4.out; have := HJ24.out; have := HK3.out; have := HJ49.out; first | omega | exact Nat.le_refl _⟩, ⟨ks HO_11.out⟩, ⟨bk BK606.out⟩, ⟨bk BK607.out⟩, ⟨bk BK613.out⟩, ⟨by repeat (first | (with_reducible exact HR620_3.out) | (with_reducible refine Kd.C_alloc ?_ _) | (with_reducible refine Kd.C_drewN ?_ _) | (with_reducible refine Kd.C_drew ?_) | exact HR620_3.out)⟩, ⟨bl HB.out⟩⟩
             replace c78 := Bool.eq_false_iff.mpr c78
             subst c78
             have H1 : (if x12_3 ≥ a1_0 then (blotterlaw08_AnchorHolds.j5 kj49 t617 x12_3 x13_3 x14_3 x15_3 x16_49 (decide (x12_3 < a1_1)) a1_0 a1_1 false t609 t610 t611) else (blotterlaw08_AnchorHolds.j5 kj49 t617 x12_3 x13_3 x14_3 x15_3 x16_49 false a1_0 a1_1 false t609 t610 t611)) = some r := by rw [if_neg (show ¬ (false = true) by decide)] at H; exact H
             clear H
             have H := H1
             clear H1
             by_cases c82 : x12_3 ≥ a1_0
             ·rw [if_pos c82] at H
              have c82b0 : decide (a1_0 ≤ x12_3) = true := decide_eq_true c82
              clear c82
              (first | rw [c82b0] | (simp only [i64_w, i32_w]; rw [c82b0]) | skip)
              have H' := am H
              clear H
              have hnb83 := NB607_606.out
              have hnc83 := NB606_607.out
              have hnb84 := NB607_613.out
              have hnc84 := NB613_607.out
              have hcz85_0 : wc.cell? ⟨gb607, 0, none⟩ = some (.int .i64 a1_0) := (blk_cell BK607.out 0).trans rfl
              have hcz85_1 : wc.cell? ⟨gb607, 1, none⟩ = some (.int .i64 a1_1) := (blk_cell BK607.out 1).trans rfl
              have hcz85_2 : wc.cell? ⟨gb607, 2, none⟩ = some (.bool false) := (blk_cell BK607.out 2).trans rfl
              have hfz85_0 := blk_frozen BK607.out 0
              have hfz85_1 := blk_frozen BK607.out 1
              have hfz85_2 := blk_frozen BK607.out 2
              go_wp2
              go_meet
              case rel => exact ⟨_, (decide (x12_3 < a1_1)), (rs), H', ⟨by have := HJ4.out; have := HJ24.out; have := HK3.out; have := HJ49.out; first | omega | exact Nat.le_refl _⟩, ⟨ks HO_11.out⟩, ⟨bk BK606.out⟩, ⟨bk BK607.out⟩, ⟨bk BK613.out⟩, ⟨by repeat (first | (with_reducible exact HR620_3.out) | (with_reducible refine Kd.C_alloc ?_ _) | (with_reducible refine Kd.C_drewN ?_ _) | (with_reducible refine Kd.C_drew ?_) | exact HR620_3.out)⟩, ⟨bl HB.out⟩⟩
             rw [if_neg c82] at H
             have c82b0 : decide (a1_0 ≤ x12_3) = false := decide_eq_false c82
             clear c82
             (first | rw [c82b0] | (simp only [i64_w, i32_w]; rw [c82b0]) | skip)
             have H' := am H
             clear H
             have hnb86 := NB607_606.out
             have hnc86 := NB606_607.out
             have hnb87 := NB607_613.out
             have hnc87 := NB613_607.out
             have hcz88_0 : wc.cell? ⟨gb607, 0, none⟩ = some (.int .i64 a1_0) := (blk_cell BK607.out 0).trans rfl
             have hcz88_1 : wc.cell? ⟨gb607, 1, none⟩ = some (.int .i64 a1_1) := (blk_cell BK607.out 1).trans rfl
             have hcz88_2 : wc.cell? ⟨gb607, 2, none⟩ = some (.bool false) := (blk_cell BK607.out 2).trans rfl
             have hfz88_0 := blk_frozen BK607.out 0
             have hfz88_1 := blk_frozen BK607.out 1
             have hfz88_2 := blk_frozen BK607.out 2
             go_wp2
             go_meet
             case rel => exact ⟨_, (false), (rs), H', ⟨by have := HJ4.out; have := HJ24.out; have := HK3.out; have := HJ49.out; first | omega | exact Nat.le_refl _⟩, ⟨ks HO_11.out⟩, ⟨bk BK606.out⟩, ⟨bk BK607.out⟩, ⟨bk BK613.out⟩, ⟨by repeat (first | (with_reducible exact HR620_3.out) | (with_reducible refine Kd.C_alloc ?_ _) | (with_reducible refine Kd.C_drewN ?_ _) | (with_reducible refine Kd.C_drew ?_) | exact HR620_3.out)⟩, ⟨bl HB.out⟩⟩
            case rest =>
             clear HC77
             try clear c1; try clear c2; try clear p2; try clear c3; try clear c4; try clear c5; try clear c6; try clear p6; try clear q6; try clear hx6; try clear c7; try clear c8; try clear c9; try clear c12; try clear c14; try clear c15; try clear c16; try clear c17; try clear c18; try clear c19; try clear c20; try clear c21; try clear c26; try clear c27; try clear c30; try clear c33; try clear c33b0; try clear c33b1; try clear c34; try clear c35; try clear c36; try clear c38; try clear c40; try clear c41; try clear c43; try clear c45; try clear c46; try clear c49; try clear c49b0; try clear c52; try clear c52b0; try clear c53; try clear c54; try clear c56; try clear c57; try clear c59; try clear c59b0; try clear c60; try clear c60b0; try clear c61; try clear c61b0; try clear c61b1; try clear c62; try clear c62b0; try clear c62b1; try clear p62; try clear q62; try clear hx62; try clear c64; try clear p64; try clear c65; try clear c66; try clear c68; try clear c68b0; try clear c69; try clear c70; try clear c72; try clear c73; try clear c75; try clear c75b0; try clear c75b1; try clear c75b2; try clear c76; try clear c78; try clear c79; try clear c80; try clear c82; try clear c82b0; try clear c83; try clear c84; try clear c86; try clear c87; try clear hcz10_0; try clear hcz10_1; try clear hcz11_0; try clear hcz11_1; try clear hcz11_2; try clear hcz16_0; try clear hcz16_1; try clear hcz16_2; try clear hcz22_0; try clear hcz22_1; try clear hcz22_2; try clear hcz28_0; try clear hcz28_1; try clear hcz31_0; try clear hcz31_1; try clear hcz31_2; try clear hcz37_0; try clear hcz37_1; try clear hcz37_2; try clear hcz39_0; try clear hcz39_1; try clear hcz39_2; try clear hcz42_0; try clear hcz42_1; try clear hcz42_2; try clear hcz47_0; try clear hcz47_1; try clear hcz55_0; try clear hcz55_1; try clear hcz55_2; try clear hcz58_0; try clear hcz58_1; try clear hcz58_2; try clear hcz67_0; try clear hcz67_1; try clear hcz67_2; try clear hcz71_0; try clear hcz71_1; try clear hcz71_2; try clear hcz74_0; try clear hcz74_1; try clear hcz74_2; try clear hcz81_0; try clear hcz81_1; try clear hcz81_2; try clear hcz85_0; try clear hcz85_1; try clear hcz85_2; try clear hcz88_0; try clear hcz88_1; try clear hcz88_2; try clear hfz10_0; try clear hfz10_1; try clear hfz11_0; try clear hfz11_1; try clear hfz11_2; try clear hfz16_0; try clear hfz16_1; try clear hfz16_2; try clear hfz22_0; try clear hfz22_1; try clear hfz22_2; try clear hfz28_0; try clear hfz28_1; try clear hfz31_0; try clear hfz31_1; try clear hfz31_2; try clear hfz37_0; try clear hfz37_1; try clear hfz37_2; try clear hfz39_0; try clear hfz39_1; try clear hfz39_2; try clear hfz42_0; try clear hfz42_1; try clear hfz42_2; try clear hfz47_0; try clear hfz47_1; try clear hfz55_0; try clear hfz55_1; try clear hfz55_2; try clear hfz58_0; try clear hfz58_1; try clear hfz58_2; try clear hfz67_0; try clear hfz67_1; try clear hfz67_2; try clear hfz71_0; try clear hfz71_1; try clear hfz71_2; try clear hfz74_0; try clear hfz74_1; try clear hfz74_2; try clear hfz81_0; try clear hfz81_1; try clear hfz81_2; try clear hfz85_0; try clear hfz85_1; try clear hfz85_2; try clear hfz88_0; try clear hfz88_1; try clear hfz88_2; try clear hx620_0; try clear hx620_1; try clear hx620_2; try clear hx620_3; try clear p2; try clear p6; try clear p62; try clear p620; try clear p64; try clear q6; try clear q62; try clear q620
             obtain ⟨kq, x18_76, rfl, HA, HJ76, HO_11, BK606, BK607, BK613, HR620_3, HB⟩ := hcut
             cases kq with
             | zero => exact absurd HA.out (by simp [blotterlaw08_AnchorHolds.j5])
             | succ kj76 =>
              have H := HA.out
              clear HA
              simp only [blotterlaw08_AnchorHolds.j5] at H
              by_cases c89 : (x18_76 != x16_49) = true
              ·rw [if_pos c89] at H
               exact absurd H (by simp)
              rw [if_neg c89] at H
              have c89b0 : (x18_76 != x16_49) = false := by simpa using c89
              (try (have c89b1 : decide (x18_76 = x16_49) = true := by simpa using c89))
              (try (have c89b2 : (x18_76 == x16_49) = true := by simpa using c89))
              clear c89
              by_cases c90 : x18_76 = true
              ·subst c90
               have H1 : (blotterlaw08_AnchorHolds.l0 kj76 t617 (wrap64 (x12_3 + 1)) (wrap64 (x13_3 + 1)) (wrap64 (x14_3 + 1)) (wrap64 (x15_3 + 1)) a1_0 a1_1 a1_2 t609 t610 t611) = some r := by rw [if_pos rfl] at H; exact H
               clear H
               have H := H1
               clear H1
               have H' := am H
               clear H
               go_wp2
               go_roundg kj76
               case measure => have := HJ4.out; have := HJ24.out; have := HK3.out; have := HJ49.out; have := HJ76.out; omega
               case rel => exact ⟨(wrap64 (x12_3 + 1)), (wrap64 (x13_3 + 1)), (wrap64 (x14_3 + 1)), (wrap64 (x15_3 + 1)), (rs), (rs), (rs), (rs), H', ⟨by have := HJ4.out; have := HJ24.out; have := HK3.out; have := HJ49.out; have := HJ76.out; omega⟩, ⟨ks HO_11.out⟩, ⟨bk BK606.out⟩, ⟨bk BK607.out⟩, ⟨bk BK613.out⟩, ⟨bl HB.out⟩⟩
              replace c90 := Bool.eq_false_iff.mpr c90
              subst c90
              have H1 : (blotterlaw08_AnchorHolds.l0 kj76 t617 (wrap64 (x12_3 + 1)) (wrap64 (x13_3 + 1)) x14_3 (wrap64 (x15_3 + 1)) a1_0 a1_1 a1_2 t609 t610 t611) = some r := by rw [if_neg (show ¬ (false = true) by decide)] at H; exact H
              clear H
              have H := H1
              clear H1
              have H' := am H
              clear H
              go_wp2
              go_roundg kj76
              case measure => have := HJ4.out; have := HJ24.out; have := HK3.out; have := HJ49.out; have := HJ76.out; omega
              case rel => exact ⟨(wrap64 (x12_3 + 1)), (wrap64 (x13_3 + 1)), (x14_3), (wrap64 (x15_3 + 1)), (rs), (rs), (rs), (rs), H', ⟨by have := HJ4.out; have := HJ24.out; have := HK3.out; have := HJ49.out; have := HJ76.out; omega⟩, ⟨ks HO_11.out⟩, ⟨bk BK606.out⟩, ⟨bk BK607.out⟩, ⟨bk BK613.out⟩, ⟨bl HB.out⟩⟩
           rw [if_neg c60] at H
           exact absurd H (by simp)
          rw [if_neg c59] at H
          exact absurd H (by simp)
       rw [if_neg c49] at H
       have c49b0 : decide (x15_3 < (t617.length : Int)) = false := decide_eq_false c49
       clear c49
       by_cases c91 : (t611 == (x14_3 == 0)) = true
       ·rw [if_pos c91] at H
        have c91b0 : (t611 == (x14_3 == 0)) = true := c91
        (try (have c91b1 : decide (t611 = (x14_3 == 0)) = true := by simpa using c91))
        (try (have c91b2 : (t611 == (x14_3 == 0)) = true := by simpa using c91))
        clear c91
        obtain rfl := Option.some.inj H
        obtain ⟨Ao92, co92, eo92⟩ := Kd.N_slice HO_11.out
        subst eo92
        have hnb93 := NB613_606.out
        have hnc93 := NB606_613.out
        have hnb94 := NB613_607.out
        have hnc94 := NB607_613.out
        have hcz95_0 : wr.cell? ⟨gb613, 0, none⟩ = some (.int .i64 t609) := (blk_cell BK613.out 0).trans rfl
        have hcz95_1 : wr.cell? ⟨gb613, 1, none⟩ = some (.int .i64 t610) := (blk_cell BK613.out 1).trans rfl
        have hcz95_2 : wr.cell? ⟨gb613, 2, none⟩ = some (.bool t611) := (blk_cell BK613.out 2).trans rfl
        have hfz95_0 := blk_frozen BK613.out 0
        have hfz95_1 := blk_frozen BK613.out 1
        have hfz95_2 := blk_frozen BK613.out 2
        go_wp2
        go_ret
        exact ⟨re, bl HB.out⟩
       rw [if_neg c91] at H
       exact absurd H (by simp)
end Go.Proofs.YtinbpjodheceoaaDoor.Sp
