/- Written by this session's programs (sprint.py, prune.py). -/
import Derived.Test.YtinbpjodheceoaaDoorXgSp0
import Derived.Test.YtinbpjodheceoaaDoorXgSp3
import Derived.Test.YtinbpjodheceoaaDoorXgSp4
import Derived.Test.YtinbpjodheceoaaDoorXgSp5
import Derived.Lib.SliceRun
namespace Go.Proofs.YtinbpjodheceoaaDoor.Sp
open Go.RowKit Go.Proofs.YtinbpjodheceoaaDoorW.PrintWords Go.Proofs.YtinbpjodheceoaaDoorW.PrintLast Go.Proofs.YtinbpjodheceoaaDoorW.PrintMore
attribute [local go_sem] max2_int min2_int max_two min_two max_three min_three max_four min_four   -- for this text's walks alone
set_option linter.unusedVariables false
set_option linter.unusedSimpArgs false
attribute [local go_sem] own_leq own_gtr own_geq   -- for this text's walks alone
def change_one.f (k : Nat) (a0_0 : Int) (a0_1 : Int) (a0_2 : ByteArray) (l0_3 : List (S90)) (a1 : Int) : Option (Int × Int × Int) := (change_shaped.f a0_0 a0_1 a0_2 l0_3).bind fun t120 => (if t120 = true then (if a0_0 = 2 then ((runes_Count.f k a0_2).bind fun bt121 => (if bt121.2 = 0 then ((attrs_Right.f k l0_3).bind fun t123 => (some (0, bt121.1, t123))) else (some (0, 0, bt121.2)))) else ((attrs_Change.f k l0_3).bind fun t124 => (if t124 = 0 then (if a0_1 > a1 then (some (0, 0, 31)) else (if a0_0 = 3 then (some (a0_1, wrap64 (-a0_1), 0)) else (some (a0_1, 0, 0)))) else (some (0, 0, t124))))) else (some (0, 0, 30)))
theorem change_one.mono : ∀ a0 a1 a2 a3 a4 k, LeO (change_one.f k a0 a1 a2 a3 a4) (change_one.f (k + 1) a0 a1 a2 a3 a4) := by
 intro a0 a1 a2 a3 a4 k
 unfold change_one.f
 have m0 := @attrs_Change.mono; have m1 := @attrs_Right.mono; have m2 := @runes_Count.mono; exact lo
set_option maxHeartbeats 8000000 in
set_option maxRecDepth 100000 in
theorem change_one.calls (k : Nat) (a0_0 : Int) (a0_1 : Int) (a0_2 : ByteArray) (A0_3 : Option Addr) (c0_3 : Nat) (l0_3 : List (S90)) (a1 : Int) (r1 : Int) (r2 : Int) (r3 : Int) (w : World) (hr0_3 : Kd.C k90 w A0_3 l0_3.length l0_3) (hc0_3 : l0_3.length ≤ c0_3) (hT_ : Tabs w) (h : change_one.f k a0_0 a0_1 a0_2 l0_3 a1 = some (r1, r2, r3)) :
 Calls Tryd.prog 42 #[.agg #[.int .i64 a0_0, .int .i64 a0_1, .string a0_2, .slice A0_3 l0_3.length c0_3], .int .i64 a1] w fun e w' => e = .returned (.tuple #[.int .i64 r1, .int .i64 r2, .int .i64 r3]) ∧ Below w.heap.size w w' := by
 have hu43 := Tryd.underlying43
 have HT_ := am hT_
 clear hT_
 have HR0_3 := am hr0_3
 have HC0_3 := am hc0_3
 clear hr0_3 hc0_3
 have HB := am (Below.refl w.heap.size w)
 have H : ((change_shaped.f a0_0 a0_1 a0_2 l0_3).bind fun t120 => (if t120 = true then (if a0_0 = 2 then ((runes_Count.f k a0_2).bind fun bt121 => (if bt121.2 = 0 then ((attrs_Right.f k l0_3).bind fun t123 => (some (0, bt121.1, t123))) else (some (0, 0, bt121.2)))) else ((attrs_Change.f k l0_3).bind fun t124 => (if t124 = 0 then (if a0_1 > a1 then (some (0, 0, 31)) else (if a0_0 = 3 then (some (a0_1, wrap64 (-a0_1), 0)) else (some (a0_1, 0, 0)))) else (some (0, 0, t124))))) else (some (0, 0, 30)))) = some (r1, r2, r3) := h
 clear h
 replace H := Option.bind_eq_some_iff.mp H
 obtain ⟨t120, A30, H⟩ := H
 replace H : (if t120 = true then (if a0_0 = 2 then ((runes_Count.f k a0_2).bind fun bt121 => (if bt121.2 = 0 then ((attrs_Right.f k l0_3).bind fun t123 => (some (0, bt121.1, t123))) else (some (0, 0, bt121.2)))) else ((attrs_Change.f k l0_3).bind fun t124 => (if t124 = 0 then (if a0_1 > a1 then (some (0, 0, 31)) else (if a0_0 = 3 then (some (a0_1, wrap64 (-a0_1), 0)) else (some (a0_1, 0, 0)))) else (some (0, 0, t124))))) else (some (0, 0, 30))) = some (r1, r2, r3) := H
 have A3 := am A30
 clear A30
 by_cases c4 : t120 = true
 ·subst c4
  have H1 : (if a0_0 = 2 then ((runes_Count.f k a0_2).bind fun bt121 => (if bt121.2 = 0 then ((attrs_Right.f k l0_3).bind fun t123 => (some (0, bt121.1, t123))) else (some (0, 0, bt121.2)))) else ((attrs_Change.f k l0_3).bind fun t124 => (if t124 = 0 then (if a0_1 > a1 then (some (0, 0, 31)) else (if a0_0 = 3 then (some (a0_1, wrap64 (-a0_1), 0)) else (some (a0_1, 0, 0)))) else (some (0, 0, t124))))) = some (r1, r2, r3) := by rw [if_pos rfl] at H; exact H
  clear H
  have H := H1
  clear H1
  by_cases c5 : a0_0 = 2
  ·rw [if_pos c5] at H
   have c5b0 : (a0_0 == 2) = true := beq_iff_eq.mpr c5
   have c5b1 : (a0_0 != 2) = false := bne_eq_false_iff_eq.mpr c5
   clear c5
   replace H := Option.bind_eq_some_iff.mp H
   obtain ⟨⟨t121, t122⟩, A60, H⟩ := H
   replace H : (if t122 = 0 then ((attrs_Right.f k l0_3).bind fun t123 => (some (0, t121, t123))) else (some (0, 0, t122))) = some (r1, r2, r3) := H
   have A6 := am A60
   clear A60
   by_cases c7 : t122 = 0
   ·rw [if_pos c7] at H
    have c7b0 : (t122 == 0) = true := beq_iff_eq.mpr c7
    have c7b1 : (t122 != 0) = false := bne_eq_false_iff_eq.mpr c7
    clear c7
    replace H := Option.bind_eq_some_iff.mp H
    obtain ⟨t123, A80, H⟩ := H
    replace H : (some (0, t121, t123)) = some (r1, r2, r3) := H
    have A8 := am A80
    clear A80
    simp only [Option.some.injEq, Prod.mk.injEq] at H
    obtain ⟨rfl, rfl, rfl⟩ := H
    go_enter Tryd.func42, Tryd.ntmps42
    go_wp2_with (first | ((with_reducible refine gate_dst (N := 2) rfl ?_); refine bev #[.int .i64 a0_0, .int .i64 a0_1, .string a0_2, .slice A0_3 l0_3.length c0_3] 43 ?_; intro gb119 hg w9 hbox hb; have BK119 := am (hbox); have GW119 := am (szl hg (bl HB.out)); have GE119 := am (szl hg (bl HB.out)); have HB := am (below_step (bl HB.out) hb); clear hb hbox hg; obtain ⟨hcz10_0, hcz10_1, hcz10_2, hcz10_3, hfz10_0, hfz10_1, hfz10_2, hfz10_3⟩ := bc4 BK119.out) | ((with_reducible refine gate_callee (f := 61) rfl ?_); refine goesL_ (some 11) rfl rfl Tryd.func61 (by kernel_rfl) rfl #[.agg #[.int .i64 a0_0, .int .i64 a0_1, .string a0_2, .slice A0_3 l0_3.length c0_3]] rfl (by (try simp only [List.map_toArray, List.map_cons, List.map_nil]); first | done | rfl | (simp only [List.length_drop, List.length_take]; rfl)) ?_; (with_reducible refine (change_shaped.calls a0_0 a0_1 a0_2 _ _ l0_3 true _ ?side1 ?side2 A3.out).mono ?_); (case side1 => exact ks (Kd.C_below HR0_3.out HB.out)); (case side2 => exact HC0_3.out); rintro e w11 ⟨rfl, hb⟩; refine ⟨_, rfl, ?_⟩; have BK119 := am (blk_below (bk BK119.out) hb); have HB := am (below_step (bl HB.out) hb); (try clear hb); (try clear hb2); (try clear hk); (try clear hi); obtain ⟨hcz12_0, hcz12_1, hcz12_2, hcz12_3, hfz12_0, hfz12_1, hfz12_2, hfz12_3⟩ := bc4 BK119.out) | ((with_reducible refine gate_callee (f := 62) rfl ?_); refine goesL_ (some 19) rfl rfl Tryd.func62 (by kernel_rfl) rfl #[.string a0_2] rfl (by (try simp only [List.map_toArray, List.map_cons, List.map_nil]); first | done | rfl | (simp only [List.length_drop, List.length_take]; rfl)) ?_; (with_reducible refine (runes_Count.calls k a0_2 t121 t122 _ ?side1 A6.out).mono ?_); (case side1 => exact Tabs.below HT_.out (bl HB.out)); rintro e w13 ⟨rfl, hb⟩; refine ⟨_, rfl, ?_⟩; have BK119 := am (blk_below (bk BK119.out) hb); have HB := am (below_step (bl HB.out) hb); (try clear hb); (try clear hb2); (try clear hk); (try clear hi); obtain ⟨hcz14_0, hcz14_1, hcz14_2, hcz14_3, hfz14_0, hfz14_1, hfz14_2, hfz14_3⟩ := bc4 BK119.out) | ((with_reducible refine gate_callee (f := 63) rfl ?_); refine goesL_ (some 28) rfl rfl Tryd.func63 (by kernel_rfl) rfl #[.slice A0_3 l0_3.length c0_3] rfl (by (try simp only [List.map_toArray, List.map_cons, List.map_nil]); first | done | rfl | (simp only [List.length_drop, List.length_take]; rfl)) ?_; (with_reducible refine (attrs_Right.calls k _ _ l0_3 t123 _ ?side1 ?side2 A8.out).mono ?_); (case side1 => exact ks (Kd.C_below HR0_3.out HB.out)); (case side2 => exact HC0_3.out); rintro e w15 ⟨rfl, hb⟩; refine ⟨_, rfl, ?_⟩; have BK119 := am (blk_below (bk BK119.out) hb); have HB := am (below_step (bl HB.out) hb); (try clear hb); (try clear hb2); (try clear hk); (try clear hi)))
    go_ret3
    exact ⟨re, bl HB.out⟩
   rw [if_neg c7] at H
   have c7b0 : (t122 == 0) = false := beq_eq_false_iff_ne.mpr c7
   have c7b1 : (t122 != 0) = true := bne_iff_ne.mpr c7
   simp only [Option.some.injEq, Prod.mk.injEq] at H
   obtain ⟨rfl, rfl, rfl⟩ := H
   go_enter Tryd.func42, Tryd.ntmps42
   go_wp2_with (first | ((with_reducible refine gate_dst (N := 2) rfl ?_); refine bev #[.int .i64 a0_0, .int .i64 a0_1, .string a0_2, .slice A0_3 l0_3.length c0_3] 43 ?_; intro gb119 hg w16 hbox hb; have BK119 := am (hbox); have GW119 := am (szl hg (bl HB.out)); have GE119 := am (szl hg (bl HB.out)); have HB := am (below_step (bl HB.out) hb); clear hb hbox hg; obtain ⟨hcz17_0, hcz17_1, hcz17_2, hcz17_3, hfz17_0, hfz17_1, hfz17_2, hfz17_3⟩ := bc4 BK119.out) | ((with_reducible refine gate_callee (f := 61) rfl ?_); refine goesL_ (some 11) rfl rfl Tryd.func61 (by kernel_rfl) rfl #[.agg #[.int .i64 a0_0, .int .i64 a0_1, .string a0_2, .slice A0_3 l0_3.length c0_3]] rfl (by (try simp only [List.map_toArray, List.map_cons, List.map_nil]); first | done | rfl | (simp only [List.length_drop, List.length_take]; rfl)) ?_; (with_reducible refine (change_shaped.calls a0_0 a0_1 a0_2 _ _ l0_3 true _ ?side1 ?side2 A3.out).mono ?_); (case side1 => exact ks (Kd.C_below HR0_3.out HB.out)); (case side2 => exact HC0_3.out); rintro e w18 ⟨rfl, hb⟩; refine ⟨_, rfl, ?_⟩; have BK119 := am (blk_below (bk BK119.out) hb); have HB := am (below_step (bl HB.out) hb); (try clear hb); (try clear hb2); (try clear hk); (try clear hi); obtain ⟨hcz19_0, hcz19_1, hcz19_2, hcz19_3, hfz19_0, hfz19_1, hfz19_2, hfz19_3⟩ := bc4 BK119.out) | ((with_reducible refine gate_callee (f := 62) rfl ?_); refine goesL_ (some 19) rfl rfl Tryd.func62 (by kernel_rfl) rfl #[.string a0_2] rfl (by (try simp only [List.map_toArray, List.map_cons, List.map_nil]); first | done | rfl | (simp only [List.length_drop, List.length_take]; rfl)) ?_; (with_reducible refine (runes_Count.calls k a0_2 t121 t122 _ ?side1 A6.out).mono ?_); (case side1 => exact Tabs.below HT_.out (bl HB.out)); rintro e w20 ⟨rfl, hb⟩; refine ⟨_, rfl, ?_⟩; have BK119 := am (blk_below (bk BK119.out) hb); have HB := am (below_step (bl HB.out) hb); (try clear hb); (try clear hb2); (try clear hk); (try clear hi)))
   go_ret3
   exact ⟨re, bl HB.out⟩
  rw [if_neg c5] at H
  have c5b0 : (a0_0 == 2) = false := beq_eq_false_iff_ne.mpr c5
  have c5b1 : (a0_0 != 2) = true := bne_iff_ne.mpr c5
  replace H := Option.bind_eq_some_iff.mp H
  obtain ⟨t124, A210, H⟩ := H
  replace H : (if t124 = 0 then (if a0_1 > a1 then (some (0, 0, 31)) else (if a0_0 = 3 then (some (a0_1, wrap64 (-a0_1), 0)) else (some (a0_1, 0, 0)))) else (some (0, 0, t124))) = some (r1, r2, r3) := H
  have A21 := am A210
  clear A210
  by_cases c22 : t124 = 0
  ·rw [if_pos c22] at H
   have c22b0 : (t124 == 0) = true := beq_iff_eq.mpr c22
   have c22b1 : (t124 != 0) = false := bne_eq_false_iff_eq.mpr c22
   clear c22
   by_cases c23 : a0_1 > a1
   ·rw [if_pos c23] at H
    have c23b0 : decide (a1 < a0_1) = true := decide_eq_true c23
    clear c23
    simp only [Option.some.injEq, Prod.mk.injEq] at H
    obtain ⟨rfl, rfl, rfl⟩ := H
    go_enter Tryd.func42, Tryd.ntmps42
    go_wp2_with (first | ((with_reducible refine gate_dst (N := 2) rfl ?_); refine bev #[.int .i64 a0_0, .int .i64 a0_1, .string a0_2, .slice A0_3 l0_3.length c0_3] 43 ?_; intro gb119 hg w24 hbox hb; have BK119 := am (hbox); have GW119 := am (szl hg (bl HB.out)); have GE119 := am (szl hg (bl HB.out)); have HB := am (below_step (bl HB.out) hb); clear hb hbox hg; obtain ⟨hcz25_0, hcz25_1, hcz25_2, hcz25_3, hfz25_0, hfz25_1, hfz25_2, hfz25_3⟩ := bc4 BK119.out) | ((with_reducible refine gate_callee (f := 61) rfl ?_); refine goesL_ (some 11) rfl rfl Tryd.func61 (by kernel_rfl) rfl #[.agg #[.int .i64 a0_0, .int .i64 a0_1, .string a0_2, .slice A0_3 l0_3.length c0_3]] rfl (by (try simp only [List.map_toArray, List.map_cons, List.map_nil]); first | done | rfl | (simp only [List.length_drop, List.length_take]; rfl)) ?_; (with_reducible refine (change_shaped.calls a0_0 a0_1 a0_2 _ _ l0_3 true _ ?side1 ?side2 A3.out).mono ?_); (case side1 => exact ks (Kd.C_below HR0_3.out HB.out)); (case side2 => exact HC0_3.out); rintro e w26 ⟨rfl, hb⟩; refine ⟨_, rfl, ?_⟩; have BK119 := am (blk_below (bk BK119.out) hb); have HB := am (below_step (bl HB.out) hb); (try clear hb); (try clear hb2); (try clear hk); (try clear hi); obtain ⟨hcz27_0, hcz27_1, hcz27_2, hcz27_3, hfz27_0, hfz27_1, hfz27_2, hfz27_3⟩ := bc4 BK119.out) | ((with_reducible refine gate_callee (f := 64) rfl ?_); refine goesL_ (some 31) rfl rfl Tryd.func64 (by kernel_rfl) rfl #[.slice A0_3 l0_3.length c0_3] rfl (by (try simp only [List.map_toArray, List.map_cons, List.map_nil]); first | done | rfl | (simp only [List.length_drop, List.length_take]; rfl)) ?_; (with_reducible refine (attrs_Change.calls k _ _ l0_3 t124 _ ?side1 ?side2 A21.out).mono ?_); (case side1 => exact ks (Kd.C_below HR0_3.out HB.out)); (case side2 => exact HC0_3.out); rintro e w28 ⟨rfl, hb⟩; refine ⟨_, rfl, ?_⟩; have BK119 := am (blk_below (bk BK119.out) hb); have HB := am (below_step (bl HB.out) hb); (try clear hb); (try clear hb2); (try clear hk); (try clear hi); obtain ⟨hcz29_0, hcz29_1, hcz29_2, hcz29_3, hfz29_0, hfz29_1, hfz29_2, hfz29_3⟩ := bc4 BK119.out))
    go_ret3
    exact ⟨re, bl HB.out⟩
   rw [if_neg c23] at H
   have c23b0 : decide (a1 < a0_1) = false := decide_eq_false c23
   clear c23
   by_cases c30 : a0_0 = 3
   ·rw [if_pos c30] at H
    have c30b0 : (a0_0 == 3) = true := beq_iff_eq.mpr c30
    have c30b1 : (a0_0 != 3) = false := bne_eq_false_iff_eq.mpr c30
    clear c30
    simp only [Option.some.injEq, Prod.mk.injEq] at H
    obtain ⟨rfl, rfl, rfl⟩ := H
    go_enter Tryd.func42, Tryd.ntmps42
    go_wp2_with (first | ((with_reducible refine gate_dst (N := 2) rfl ?_); refine bev #[.int .i64 a0_0, .int .i64 a0_1, .string a0_2, .slice A0_3 l0_3.length c0_3] 43 ?_; intro gb119 hg w31 hbox hb; have BK119 := am (hbox); have GW119 := am (szl hg (bl HB.out)); have GE119 := am (szl hg (bl HB.out)); have HB := am (below_step (bl HB.out) hb); clear hb hbox hg; obtain ⟨hcz32_0, hcz32_1, hcz32_2, hcz32_3, hfz32_0, hfz32_1, hfz32_2, hfz32_3⟩ := bc4 BK119.out) | ((with_reducible refine gate_callee (f := 61) rfl ?_); refine goesL_ (some 11) rfl rfl Tryd.func61 (by kernel_rfl) rfl #[.agg #[.int .i64 a0_0, .int .i64 a0_1, .string a0_2, .slice A0_3 l0_3.length c0_3]] rfl (by (try simp only [List.map_toArray, List.map_cons, List.map_nil]); first | done | rfl | (simp only [List.length_drop, List.length_take]; rfl)) ?_; (with_reducible refine (change_shaped.calls a0_0 a0_1 a0_2 _ _ l0_3 true _ ?side1 ?side2 A3.out).mono ?_); (case side1 => exact ks (Kd.C_below HR0_3.out HB.out)); (case side2 => exact HC0_3.out); rintro e w33 ⟨rfl, hb⟩; refine ⟨_, rfl, ?_⟩; have BK119 := am (blk_below (bk BK119.out) hb); have HB := am (below_step (bl HB.out) hb); (try clear hb); (try clear hb2); (try clear hk); (try clear hi); obtain ⟨hcz34_0, hcz34_1, hcz34_2, hcz34_3, hfz34_0, hfz34_1, hfz34_2, hfz34_3⟩ := bc4 BK119.out) | ((with_reducible refine gate_callee (f := 64) rfl ?_); refine goesL_ (some 31) rfl rfl Tryd.func64 (by kernel_rfl) rfl #[.slice A0_3 l0_3.length c0_3] rfl (by (try simp only [List.map_toArray, List.map_cons, List.map_nil]); first | done | rfl | (simp only [List.length_drop, List.length_take]; rfl)) ?_; (with_reducible refine (attrs_Change.calls k _ _ l0_3 t124 _ ?side1 ?side2 A21.out).mono ?_); (case side1 => exact ks (Kd.C_below HR0_3.out HB.out)); (case side2 => exact HC0_3.out); rintro e w35 ⟨rfl, hb⟩; refine ⟨_, rfl, ?_⟩; have BK119 := am (blk_below (bk BK119.out) hb); have HB := am (below_step (bl HB.out) hb); (try clear hb); (try clear hb2); (try clear hk); (try clear hi); obtain ⟨hcz36_0, hcz36_1, hcz36_2, hcz36_3, hfz36_0, hfz36_1, hfz36_2, hfz36_3⟩ := bc4 BK119.out))
    go_ret3
    exact ⟨re, bl HB.out⟩
   rw [if_neg c30] at H
   have c30b0 : (a0_0 == 3) = false := beq_eq_false_iff_ne.mpr c30
   have c30b1 : (a0_0 != 3) = true := bne_iff_ne.mpr c30
   simp only [Option.some.injEq, Prod.mk.injEq] at H
   obtain ⟨rfl, rfl, rfl⟩ := H
   go_enter Tryd.func42, Tryd.ntmps42
   go_wp2_with (first | ((with_reducible refine gate_dst (N := 2) rfl ?_); refine bev #[.int .i64 a0_0, .int .i64 a0_1, .string a0_2, .slice A0_3 l0_3.length c0_3] 43 ?_; intro gb119 hg w37 hbox hb; have BK119 := am (hbox); have GW119 := am (szl hg (bl HB.out)); have GE119 := am (szl hg (bl HB.out)); have HB := am (below_step (bl HB.out) hb); clear hb hbox hg; obtain ⟨hcz38_0, hcz38_1, hcz38_2, hcz38_3, hfz38_0, hfz38_1, hfz38_2, hfz38_3⟩ := bc4 BK119.out) | ((with_reducible refine gate_callee (f := 61) rfl ?_); refine goesL_ (some 11) rfl rfl Tryd.func61 (by kernel_rfl) rfl #[.agg #[.int .i64 a0_0, .int .i64 a0_1, .string a0_2, .slice A0_3 l0_3.length c0_3]] rfl (by (try simp only [List.map_toArray, List.map_cons, List.map_nil]); first | done | rfl | (simp only [List.length_drop, List.length_take]; rfl)) ?_; (with_reducible refine (change_shaped.calls a0_0 a0_1 a0_2 _ _ l0_3 true _ ?side1 ?side2 A3.out).mono ?_); (case side1 => exact ks (Kd.C_below HR0_3.out HB.out)); (case side2 => exact HC0_3.out); rintro e w39 ⟨rfl, hb⟩; refine ⟨_, rfl, ?_⟩; have BK119 := am (blk_below (bk BK119.out) hb); have HB := am (below_step (bl HB.out) hb); (try clear hb); (try clear hb2); (try clear hk); (try clear hi); obtain ⟨hcz40_0, hcz40_1, hcz40_2, hcz40_3, hfz40_0, hfz40_1, hfz40_2, hfz40_3⟩ := bc4 BK119.out) | ((with_reducible refine gate_callee (f := 64) rfl ?_); refine goesL_ (some 31) rfl rfl Tryd.func64 (by kernel_rfl) rfl #[.slice A0_3 l0_3.length c0_3] rfl (by (try simp only [List.map_toArray, List.map_cons, List.map_nil]); first | done | rfl | (simp only [List.length_drop, List.length_take]; rfl)) ?_; (with_reducible refine (attrs_Change.calls k _ _ l0_3 t124 _ ?side1 ?side2 A21.out).mono ?_); (case side1 => exact ks (Kd.C_below HR0_3.out HB.out)); (case side2 => exact HC0_3.out); rintro e w41 ⟨rfl, hb⟩; refine ⟨_, rfl, ?_⟩; have BK119 := am (blk_below (bk BK119.out) hb); have HB := am (below_step (bl HB.out) hb); (try clear hb); (try clear hb2); (try clear hk); (try clear hi); obtain ⟨hcz42_0, hcz42_1, hcz42_2, hcz42_3, hfz42_0, hfz42_1, hfz42_2, hfz42_3⟩ := bc4 BK119.out))
   go_ret3
   exact ⟨re, bl HB.out⟩
  rw [if_neg c22] at H
  have c22b0 : (t124 == 0) = false := beq_eq_false_iff_ne.mpr c22
  have c22b1 : (t124 != 0) = true := bne_iff_ne.mpr c22
  simp only [Option.some.injEq, Prod.mk.injEq] at H
  obtain ⟨rfl, rfl, rfl⟩ := H
  go_enter Tryd.func42, Tryd.ntmps42
  go_wp2_with (first | ((with_reducible refine gate_dst (N := 2) rfl ?_); refine bev #[.int .i64 a0_0, .int .i64 a0_1, .string a0_2, .slice A0_3 l0_3.length c0_3] 43 ?_; intro gb119 hg w43 hbox hb; have BK119 := am (hbox); have GW119 := am (szl hg (bl HB.out)); have GE119 := am (szl hg (bl HB.out)); have HB := am (below_step (bl HB.out) hb); clear hb hbox hg; obtain ⟨hcz44_0, hcz44_1, hcz44_2, hcz44_3, hfz44_0, hfz44_1, hfz44_2, hfz44_3⟩ := bc4 BK119.out) | ((with_reducible refine gate_callee (f := 61) rfl ?_); refine goesL_ (some 11) rfl rfl Tryd.func61 (by kernel_rfl) rfl #[.agg #[.int .i64 a0_0, .int .i64 a0_1, .string a0_2, .slice A0_3 l0_3.length c0_3]] rfl (by (try simp only [List.map_toArray, List.map_cons, List.map_nil]); first | done | rfl | (simp only [List.length_drop, List.length_take]; rfl)) ?_; (with_reducible refine (change_shaped.calls a0_0 a0_1 a0_2 _ _ l0_3 true _ ?side1 ?side2 A3.out).mono ?_); (case side1 => exact ks (Kd.C_below HR0_3.out HB.out)); (case side2 => exact HC0_3.out); rintro e w45 ⟨rfl, hb⟩; refine ⟨_, rfl, ?_⟩; have BK119 := am (blk_below (bk BK119.out) hb); have HB := am (below_step (bl HB.out) hb); (try clear hb); (try clear hb2); (try clear hk); (try clear hi); obtain ⟨hcz46_0, hcz46_1, hcz46_2, hcz46_3, hfz46_0, hfz46_1, hfz46_2, hfz46_3⟩ := bc4 BK119.out) | ((with_reducible refine gate_callee (f := 64) rfl ?_); refine goesL_ (some 31) rfl rfl Tryd.func64 (by kernel_rfl) rfl #[.slice A0_3 l0_3.length c0_3] rfl (by (try simp only [List.map_toArray, List.map_cons, List.map_nil]); first | done | rfl | (simp only [List.length_drop, List.length_take]; rfl)) ?_; (with_reducible refine (attrs_Change.calls k _ _ l0_3 t124 _ ?side1 ?side2 A21.out).mono ?_); (case side1 => exact ks (Kd.C_below HR0_3.out HB.out)); (case side2 => exact HC0_3.out); rintro e w47 ⟨rfl, hb⟩; refine ⟨_, rfl, ?_⟩; have BK119 := am (blk_below (bk BK119.out) hb); have HB := am (below_step (bl HB.out) hb); (try clear hb); (try clear hb2); (try clear hk); (try clear hi)))
  go_ret3
  exact ⟨re, bl HB.out⟩
 replace c4 := Bool.eq_false_iff.mpr c4
 subst c4
 have H1 : (some (0, 0, 30)) = some (r1, r2, r3) := by rw [if_neg (show ¬ (false = true) by decide)] at H; exact H
 clear H
 have H := H1
 clear H1
 simp only [Option.some.injEq, Prod.mk.injEq] at H
 obtain ⟨rfl, rfl, rfl⟩ := H
 go_enter Tryd.func42, Tryd.ntmps42
 go_wp2_with (first | ((with_reducible refine gate_dst (N := 2) rfl ?_); refine bev #[.int .i64 a0_0, .int .i64 a0_1, .string a0_2, .slice A0_3 l0_3.length c0_3] 43 ?_; intro gb119 hg w48 hbox hb; have BK119 := am (hbox); have GW119 := am (szl hg (bl HB.out)); have GE119 := am (szl hg (bl HB.out)); have HB := am (below_step (bl HB.out) hb); clear hb hbox hg; obtain ⟨hcz49_0, hcz49_1, hcz49_2, hcz49_3, hfz49_0, hfz49_1, hfz49_2, hfz49_3⟩ := bc4 BK119.out) | ((with_reducible refine gate_callee (f := 61) rfl ?_); refine goesL_ (some 11) rfl rfl Tryd.func61 (by kernel_rfl) rfl #[.agg #[.int .i64 a0_0, .int .i64 a0_1, .string a0_2, .slice A0_3 l0_3.length c0_3]] rfl (by (try simp only [List.map_toArray, List.map_cons, List.map_nil]); first | done | rfl | (simp only [List.length_drop, List.length_take]; rfl)) ?_; (with_reducible refine (change_shaped.calls a0_0 a0_1 a0_2 _ _ l0_3 false _ ?side1 ?side2 A3.out).mono ?_); (case side1 => exact ks (Kd.C_below HR0_3.out HB.out)); (case side2 => exact HC0_3.out); rintro e w50 ⟨rfl, hb⟩; refine ⟨_, rfl, ?_⟩; have BK119 := am (blk_below (bk BK119.out) hb); have HB := am (below_step (bl HB.out) hb); (try clear hb); (try clear hb2); (try clear hk); (try clear hi)))
 go_ret3
 exact ⟨re, bl HB.out⟩
mutual
def change_To.j0 : Nat → Bool → Int → List (S43) → Option (Int × Int)
 | 0, _, _, _ => none
 | k + 1, x11, x126000, x126001 => if x11 = true then (some (0, 31)) else (if (x126001.length : Int) > 2000 then (some (0, 2)) else (change_To.l0 k x126000 x126000 x126001 (x126001.length : Int) 0))
def change_To.l0 : Nat → Int → Int → List (S43) → Int → Int → Option (Int × Int)
 | 0, _, _, _, _, _ => none
 | k + 1, x4, x5, x30, x31, x32 => if x32 < x31 then (if 0 ≤ x32 then (if x32 < (x30.length : Int) then ((change_one.f k ((rd_T43 x30 x32).f0) ((rd_T43 x30 x32).f1) ((rd_T43 x30 x32).f2) ((rd_T43 x30 x32).f3) x4).bind fun bt128 => (if bt128.2.2 = 0 then (change_To.l0 k (wrap64 (x4 - bt128.1)) (wrap64 (x5 + bt128.2.1)) x30 x31 (wrap64 (x32 + 1))) else (some (0, bt128.2.2)))) else (none)) else (none)) else (if x5 > 20000 then (some (0, 3)) else (some (x5, 0)))
end
def change_To.f (k : Nat) (a0_0 : Int) (l0_1 : List (S43)) : Option (Int × Int) := if a0_0 < 0 then (change_To.j0 k true a0_0 l0_1) else (change_To.j0 k (decide (a0_0 > 20000)) a0_0 l0_1)
theorem change_To.mono_l : ∀ k, (∀ y0 y1 y2, LeO (change_To.j0 k y0 y1 y2) (change_To.j0 (k + 1) y0 y1 y2)) ∧ (∀ y0 y1 y2 y3 y4, LeO (change_To.l0 k y0 y1 y2 y3 y4) (change_To.l0 (k + 1) y0 y1 y2 y3 y4))
 | 0 => ⟨fun _ _ _ r h => by simp [change_To.j0] at h, fun _ _ _ _ _ r h => by simp [change_To.l0] at h⟩
 | k + 1 => by
  obtain ⟨ih0, ih1⟩ := change_To.mono_l k
  refine ⟨?_, ?_⟩
  ·intro y0 y1 y2
   unfold change_To.j0
   have m0 := @change_one.mono; exact lo
  intro y0 y1 y2 y3 y4
  unfold change_To.l0
  have m0 := @change_one.mono; exact lo
theorem change_To.mono : ∀ a0 a1 k, LeO (change_To.f k a0 a1) (change_To.f (k + 1) a0 a1) := by
 intro a0 a1 k
 obtain ⟨ih0, ih1⟩ := change_To.mono_l k
 unfold change_To.f
 have m0 := @change_one.mono; exact lo
set_option maxHeartbeats 8000000 in
set_option maxRecDepth 100000 in
theorem change_To.calls (k : Nat) (a0_0 : Int) (A0_1 : Option Addr) (c0_1 : Nat) (l0_1 : List (S43)) (r1 : Int) (r2 : Int) (w : World) (hr0_1 : Kd.C k43 w A0_1 l0_1.length l0_1) (hc0_1 : l0_1.length ≤ c0_1) (hT_ : Tabs w) (h : change_To.f k a0_0 l0_1 = some (r1, r2)) :
 Calls Tryd.prog 16 #[.agg #[.int .i64 a0_0, .slice A0_1 l0_1.length c0_1]] w fun e w' => e = .returned (.tuple #[.int .i64 r1, .int .i64 r2]) ∧ Below w.heap.size w w' := by
 have hu26 := Tryd.underlying26
 have hu43 := Tryd.underlying43
 have HT_ := am hT_
 clear hT_
 have HR0_1 := am hr0_1
 have HC0_1 := am hc0_1
 clear hr0_1 hc0_1
 have HB := am (Below.refl w.heap.size w)
 have H : (if a0_0 < 0 then (change_To.j0 k true a0_0 l0_1) else (change_To.j0 k (decide (a0_0 > 20000)) a0_0 l0_1)) = some (r1, r2) := h
 clear h
 have HC2 := am H
 clear H
 go_enter Tryd.func16, Tryd.ntmps16
 go_upto_region 1 with (first | ((with_reducible refine gate_dst (N := 1) rfl ?_); refine bev #[.int .i64 a0_0, .slice A0_1 l0_1.length c0_1] 26 ?_; intro gb125 hg w3 hbox hb; have BK125 := am (hbox); have GW125 := am (szl hg (bl HB.out)); have GE125 := am (szl hg (bl HB.out)); have HB := am (below_step (bl HB.out) hb); clear hb hbox hg))
 repeat (go_quiet (first | ((with_reducible refine gate_dst (N := 1) rfl ?_); refine bev #[.int .i64 a0_0, .slice A0_1 l0_1.length c0_1] 26 ?_; intro gb125 hg w3 hbox hb; have BK125 := am (hbox); have GW125 := am (szl hg (bl HB.out)); have GE125 := am (szl hg (bl HB.out)); have HB := am (below_step (bl HB.out) hb); clear hb hbox hg)); go_upto_region 1 with (first | ((with_reducible refine gate_dst (N := 1) rfl ?_); refine bev #[.int .i64 a0_0, .slice A0_1 l0_1.length c0_1] 26 ?_; intro gb125 hg w3 hbox hb; have BK125 := am (hbox); have GW125 := am (szl hg (bl HB.out)); have GE125 := am (szl hg (bl HB.out)); have HB := am (below_step (bl HB.out) hb); clear hb hbox hg)))
 (try simp only [Act.put, List.setIfInBounds_toArray, List.set_cons_zero, List.set_cons_succ])
 go_cut [11] (fun v11 wc => ∃ (kq : Nat) (x11_1 : Bool), v11 = .bool x11_1 ∧ Aside0 (change_To.j0 kq x11_1 a0_0 l0_1 = some (r1, r2)) ∧ Aside0 (kq ≤ k) ∧ Aside0 (wc.heap[gb125]? = some (.cells #[.int .i64 a0_0, (.slice A0_1 l0_1.length c0_1)] 26 (0, 0))) ∧ Aside0 (Below w.heap.size w wc))
 case first =>
  have H := HC2.out
  clear HC2
  by_cases c4 : a0_0 < 0
  ·rw [if_pos c4] at H
   have c4b0 : decide (a0_0 < 0) = true := decide_eq_true c4
   clear c4
   (first | rw [c4b0] | (simp only [i64_w, i32_w]; rw [c4b0]) | skip)
   have H' := am H
   clear H
   have hcz5_0 : w3.cell? ⟨gb125, 0, none⟩ = some (.int .i64 a0_0) := (blk_cell BK125.out 0).trans rfl
   have hcz5_1 : w3.cell? ⟨gb125, 1, none⟩ = some (.slice A0_1 l0_1.length c0_1) := (blk_cell BK125.out 1).trans rfl
   have hfz5_0 := blk_frozen BK125.out 0
   have hfz5_1 := blk_frozen BK125.out 1
   go_wp2
   repeat (go_quiet (fail); try go_wp2)
   go_meet
   case rel => exact ⟨_, (true), (rs), H', ⟨by first | omega | exact Nat.le_refl _⟩, ⟨bk BK125.out⟩, ⟨bl HB.out⟩⟩
  rw [if_neg c4] at H
  have c4b0 : decide (a0_0 < 0) = false := decide_eq_false c4
  clear c4
  (first | rw [c4b0] | (simp only [i64_w, i32_w]; rw [c4b0]) | skip)
  have H' := am H
  clear H
  have hcz6_0 : w3.cell? ⟨gb125, 0, none⟩ = some (.int .i64 a0_0) := (blk_cell BK125.out 0).trans rfl
  have hcz6_1 : w3.cell? ⟨gb125, 1, none⟩ = some (.slice A0_1 l0_1.length c0_1) := (blk_cell BK125.out 1).trans rfl
  have hfz6_0 := blk_frozen BK125.out 0
  have hfz6_1 := blk_frozen BK125.out 1
  go_wp2
  repeat (go_quiet (fail); try go_wp2)
  go_meet
  case rel => exact ⟨_, (decide (a0_0 > 20000)), (rs), H', ⟨by first | omega | exact Nat.le_refl _⟩, ⟨bk BK125.out⟩, ⟨bl HB.out⟩⟩
 case rest =>
  clear HC2
  try clear c1; try clear p2; try clear c4; try clear c4b0; try clear hcz5_0; try clear hcz5_1; try clear hcz6_0; try clear hcz6_1; try clear hfz5_0; try clear hfz5_1; try clear hfz6_0; try clear hfz6_1
  obtain ⟨kq, x11_1, rfl, HA, HJ1, BK125, HB⟩ := hcut
  cases kq with
  | zero => exact absurd HA.out (by simp [change_To.j0])
  | succ kj1 =>
   have H := HA.out
   clear HA
   simp only [change_To.j0] at H
   by_cases c7 : x11_1 = true
   ·subst c7
    have H1 : (some (0, 31)) = some (r1, r2) := by rw [if_pos rfl] at H; exact H
    clear H
    have H := H1
    clear H1
    simp only [Option.some.injEq, Prod.mk.injEq] at H
    obtain ⟨rfl, rfl⟩ := H
    go_wp2
    repeat (go_quiet (fail); try go_wp2)
    go_ret2
    exact ⟨re, bl HB.out⟩
   replace c7 := Bool.eq_false_iff.mpr c7
   subst c7
   have H1 : (if (l0_1.length : Int) > 2000 then (some (0, 2)) else (change_To.l0 kj1 a0_0 a0_0 l0_1 (l0_1.length : Int) 0)) = some (r1, r2) := by rw [if_neg (show ¬ (false = true) by decide)] at H; exact H
   clear H
   have H := H1
   clear H1
   by_cases c8 : (l0_1.length : Int) > 2000
   ·rw [if_pos c8] at H
    have c8b0 : decide (2000 < (l0_1.length : Int)) = true := decide_eq_true c8
    have c8b1 : decide (2000 < l0_1.length) = true := decide_eq_true (by omega)
    clear c8
    simp only [Option.some.injEq, Prod.mk.injEq] at H
    obtain ⟨rfl, rfl⟩ := H
    have hcz9_0 : wc.cell? ⟨gb125, 0, none⟩ = some (.int .i64 a0_0) := (blk_cell BK125.out 0).trans rfl
    have hcz9_1 : wc.cell? ⟨gb125, 1, none⟩ = some (.slice A0_1 l0_1.length c0_1) := (blk_cell BK125.out 1).trans rfl
    have hfz9_0 := blk_frozen BK125.out 0
    have hfz9_1 := blk_frozen BK125.out 1
    go_wp2
    repeat (go_quiet (fail); try go_wp2)
    go_ret2
    exact ⟨re, bl HB.out⟩
   rw [if_neg c8] at H
   have c8b0 : decide (2000 < (l0_1.length : Int)) = false := decide_eq_false c8
   have c8b1 : decide (2000 < l0_1.length) = false := decide_eq_false (by omega)
   clear c8
   have H' := am H
   clear H
   have hcz10_0 : wc.cell? ⟨gb125, 0, none⟩ = some (.int .i64 a0_0) := (blk_cell BK125.out 0).trans rfl
   have hcz10_1 : wc.cell? ⟨gb125, 1, none⟩ = some (.slice A0_1 l0_1.length c0_1) := (blk_cell BK125.out 1).trans rfl
   have hfz10_0 := blk_frozen BK125.out 0
   have hfz10_1 := blk_frozen BK125.out 1
   go_wp2
   repeat (go_quiet (fail); try go_wp2)
   go_loopg [4, 5, 32] kj1 (fun kq v4 v5 v32 w' => ∃ (x4_2 : Int) (x5_2 : Int) (x32_2 : Int), v4 = .int .i64 x4_2 ∧ v5 = .int .i64 x5_2 ∧ v32 = .int .i64 x32_2 ∧ Aside0 (change_To.l0 kq x4_2 x5_2 l0_1 (l0_1.length : Int) x32_2 = some (r1, r2)) ∧ Aside0 (kq ≤ kj1) ∧ Aside0 (w'.heap[gb125]? = some (.cells #[.int .i64 a0_0, (.slice A0_1 l0_1.length c0_1)] 26 (0, 0))) ∧ Aside0 (Below w.heap.size w w'))
   case atStart => exact ⟨(a0_0), (a0_0), (0), (rs), (rs), (rs), H', ⟨Nat.le_refl _⟩, ⟨bk BK125.out⟩, ⟨bl HB.out⟩⟩
   case round =>
    clear H'
    try clear c1; try clear p2; try clear c4; try clear c4b0; try clear c7; try clear c8; try clear c8b0; try clear c8b1; try clear hcz10_0; try clear hcz10_1; try clear hcz5_0; try clear hcz5_1; try clear hcz6_0; try clear hcz6_1; try clear hcz9_0; try clear hcz9_1; try clear hfz10_0; try clear hfz10_1; try clear hfz5_0; try clear hfz5_1; try clear hfz6_0; try clear hfz6_1; try clear hfz9_0; try clear hfz9_1; try clear p2
    obtain ⟨x4_2, x5_2, x32_2, rfl, rfl, rfl, HA, HK2, BK125, HB⟩ := hrel
    cases gk with
    | zero => exact absurd HA.out (by simp [change_To.l0])
    | succ k2 =>
     have H := HA.out
     clear HA
     simp only [change_To.l0] at H
     by_cases c11 : x32_2 < (l0_1.length : Int)
     ·rw [if_pos c11] at H
      have c11b0 : decide (x32_2 < (l0_1.length : Int)) = true := decide_eq_true c11
      clear c11
      by_cases c12 : 0 ≤ x32_2
      ·rw [if_pos c12] at H
       have c12b0 : decide (0 ≤ x32_2) = true := decide_eq_true c12
       clear c12
       by_cases c13 : x32_2 < (l0_1.length : Int)
       ·rw [if_pos c13] at H
        have c13b0 : decide (x32_2 < (l0_1.length : Int)) = true := decide_eq_true c13
        clear c13
        replace H := Option.bind_eq_some_iff.mp H
        obtain ⟨⟨t128, t129, t130⟩, A140, H⟩ := H
        replace H : (if t130 = 0 then (change_To.l0 k2 (wrap64 (x4_2 - t128)) (wrap64 (x5_2 + t129)) l0_1 (l0_1.length : Int) (wrap64 (x32_2 + 1))) else (some (0, t130))) = some (r1, r2) := H
        have A14 := am A140
        clear A140
        by_cases c15 : t130 = 0
        ·rw [if_pos c15] at H
         have c15b0 : (t130 == 0) = true := beq_iff_eq.mpr c15
         have c15b1 : (t130 != 0) = false := bne_eq_false_iff_eq.mpr c15
         clear c15
         have H' := am H
         clear H
         have p126 : 0 ≤ (x32_2 : Int) := oda
         have q126 : x32_2 < (l0_1.length : Int) := oda
         obtain ⟨ad126, A126_3, c126_3, e126, hx126_0, hx126_1, hx126_2, hx126_3, hl126_3, hi126_3⟩ := at_T43 HR0_1.out x32_2 p126 q126
         cases e126
         replace hx126_0 := hbc HB hx126_0
         replace hx126_1 := hbc HB hx126_1
         replace hx126_2 := hbc HB hx126_2
         replace hx126_3 := hbc HB hx126_3
         have HR126_3 := am hi126_3
         have HC126_3 := am hl126_3
         clear hi126_3 hl126_3
         replace p126 := eq_true p126
         replace q126 := eq_true q126
         go_wp2_with (first | ((with_reducible refine gate_dst (N := 7) rfl ?_); refine bev #[.int .i64 0, .int .i64 0, .string (⟨#[]⟩ : ByteArray), .slice none 0 0] 43 ?_; intro gb127 hg w16 hbox hb; have BK127 := am (hbox); have GW127 := am (szl hg (bl HB.out)); have GE127 := am (szl hg (bl HB.out)); have HB := am (below_step (bl HB.out) hb); have NB125_127 := am (nel hg (bk BK125.out)); have NB127_125 := am (neg_ hg (bk BK125.out)); have BK125 := am (blk_below (bk BK125.out) hb); clear hb hbox hg; have hnb17 := NB127_125.out; have hnc17 := NB125_127.out; obtain ⟨hcz18_0, hcz18_1, hcz18_2, hcz18_3, hfz18_0, hfz18_1, hfz18_2, hfz18_3⟩ := bc4 BK127.out) | (go_at_call 42; (with_reducible refine (change_one.calls k2 ((rd_T43 l0_1 x32_2).f0) ((rd_T43 l0_1 x32_2).f1) ((rd_T43 l0_1 x32_2).f2) _ _ ((rd_T43 l0_1 x32_2).f3) x4_2 t128 t129 t130 _ ?side1 ?side2 ?side3 A14.out).mono ?_); (case side1 => exact Kd.C_below HR126_3.out (bl HB.out)); (case side2 => exact HC126_3.out); (case side3 => exact Tabs.below HT_.out (bl HB.out)); rintro e w19 ⟨rfl, hb⟩; have BK125 := am (blk_below (bk BK125.out) hb); have BK127 := am (blk_below (g := gb127) (o := .cells #[.int .i64 ((rd_T43 l0_1 x32_2).f0), .int .i64 ((rd_T43 l0_1 x32_2).f1), .string ((rd_T43 l0_1 x32_2).f2), .slice A126_3 ((rd_T43 l0_1 x32_2).f3).length c126_3] 43 (0, 0)) (bp BK127.out) hb); have HB := am (below_step (bl HB.out) hb); (try clear hb); (try clear hb2); (try clear hk); (try clear hi)))
         repeat (go_quiet (first | ((with_reducible refine gate_dst (N := 7) rfl ?_); refine bev #[.int .i64 0, .int .i64 0, .string (⟨#[]⟩ : ByteArray), .slice none 0 0] 43 ?_; intro gb127 hg w16 hbox hb; have BK127 := am (hbox); have GW127 := am (szl hg (bl HB.out)); have GE127 := am (szl hg (bl HB.out)); have HB := am (below_step (bl HB.out) hb); have NB125_127 := am (nel hg (bk BK125.out)); have NB127_125 := am (neg_ hg (bk BK125.out)); have BK125 := am (blk_below (bk BK125.out) hb); clear hb hbox hg; have hnb17 := NB127_125.out; have hnc17 := NB125_127.out; obtain ⟨hcz18_0, hcz18_1, hcz18_2, hcz18_3, hfz18_0, hfz18_1, hfz18_2, hfz18_3⟩ := bc4 BK127.out) | (go_at_call 42; (with_reducible refine (change_one.calls k2 ((rd_T43 l0_1 x32_2).f0) ((rd_T43 l0_1 x32_2).f1) ((rd_T43 l0_1 x32_2).f2) _ _ ((rd_T43 l0_1 x32_2).f3) x4_2 t128 t129 t130 _ ?side1 ?side2 ?side3 A14.out).mono ?_); (case side1 => exact Kd.C_below HR126_3.out (bl HB.out)); (case side2 => exact HC126_3.out); (case side3 => exact Tabs.below HT_.out (bl HB.out)); rintro e w19 ⟨rfl, hb⟩; have BK125 := am (blk_below (bk BK125.out) hb); have BK127 := am (blk_below (g := gb127) (o := .cells #[.int .i64 ((rd_T43 l0_1 x32_2).f0), .int .i64 ((rd_T43 l0_1 x32_2).f1), .string ((rd_T43 l0_1 x32_2).f2), .slice A126_3 ((rd_T43 l0_1 x32_2).f3).length c126_3] 43 (0, 0)) (bp BK127.out) hb); have HB := am (below_step (bl HB.out) hb); (try clear hb); (try clear hb2); (try clear hk); (try clear hi))); try go_wp2_with (first | ((with_reducible refine gate_dst (N := 7) rfl ?_); refine bev #[.int .i64 0, .int .i64 0, .string (⟨#[]⟩ : ByteArray), .slice none 0 0] 43 ?_; intro gb127 hg w16 hbox hb; have BK127 := am (hbox); have GW127 := am (szl hg (bl HB.out)); have GE127 := am (szl hg (bl HB.out)); have HB := am (below_step (bl HB.out) hb); have NB125_127 := am (nel hg (bk BK125.out)); have NB127_125 := am (neg_ hg (bk BK125.out)); have BK125 := am (blk_below (bk BK125.out) hb); clear hb hbox hg; have hnb17 := NB127_125.out; have hnc17 := NB125_127.out; obtain ⟨hcz18_0, hcz18_1, hcz18_2, hcz18_3, hfz18_0, hfz18_1, hfz18_2, hfz18_3⟩ := bc4 BK127.out) | (go_at_call 42; (with_reducible refine (change_one.calls k2 ((rd_T43 l0_1 x32_2).f0) ((rd_T43 l0_1 x32_2).f1) ((rd_T43 l0_1 x32_2).f2) _ _ ((rd_T43 l0_1 x32_2).f3) x4_2 t128 t129 t130 _ ?side1 ?side2 ?side3 A14.out).mono ?_); (case side1 => exact Kd.C_below HR126_3.out (bl HB.out)); (case side2 => exact HC126_3.out); (case side3 => exact Tabs.below HT_.out (bl HB.out)); rintro e w19 ⟨rfl, hb⟩; have BK125 := am (blk_below (bk BK125.out) hb); have BK127 := am (blk_below (g := gb127) (o := .cells #[.int .i64 ((rd_T43 l0_1 x32_2).f0), .int .i64 ((rd_T43 l0_1 x32_2).f1), .string ((rd_T43 l0_1 x32_2).f2), .slice A126_3 ((rd_T43 l0_1 x32_2).f3).length c126_3] 43 (0, 0)) (bp BK127.out) hb); have HB := am (below_step (bl HB.out) hb); (try clear hb); (try clear hb2); (try clear hk); (try clear hi))))
         go_roundg k2
         case measure => have := HJ1.out; have := HK2.out; omega
         case rel => exact ⟨(wrap64 (x4_2 - t128)), (wrap64 (x5_2 + t129)), (wrap64 (x32_2 + 1)), (rs), (rs), (rs), H', ⟨by have := HJ1.out; have := HK2.out; omega⟩, ⟨bk BK125.out⟩, ⟨bl HB.out⟩⟩
        rw [if_neg c15] at H
        have c15b0 : (t130 == 0) = false := beq_eq_false_iff_ne.mpr c15
        have c15b1 : (t130 != 0) = true := bne_iff_ne.mpr c15
        simp only [Option.some.injEq, Prod.mk.injEq] at H
        obtain ⟨rfl, rfl⟩ := H
        have p126 : 0 ≤ (x32_2 : Int) := oda
        have q126 : x32_2 < (l0_1.length : Int) := oda
        obtain ⟨ad126, A126_3, c126_3, e126, hx126_0, hx126_1, hx126_2, hx126_3, hl126_3, hi126_3⟩ := at_T43 HR0_1.out x32_2 p126 q126
        cases e126
        replace hx126_0 := hbc HB hx126_0
        replace hx126_1 := hbc HB hx126_1
        replace hx126_2 := hbc HB hx126_2
        replace hx126_3 := hbc HB hx126_3
        have HR126_3 := am hi126_3
        have HC126_3 := am hl126_3
        clear hi126_3 hl126_3
        replace p126 := eq_true p126
        replace q126 := eq_true q126
        go_wp2_with (first | ((with_reducible refine gate_dst (N := 7) rfl ?_); refine bev #[.int .i64 0, .int .i64 0, .string (⟨#[]⟩ : ByteArray), .slice none 0 0] 43 ?_; intro gb127 hg w20 hbox hb; have BK127 := am (hbox); have GW127 := am (szl hg (bl HB.out)); have GE127 := am (szl hg (bl HB.out)); have HB := am (below_step (bl HB.out) hb); have NB125_127 := am (nel hg (bk BK125.out)); have NB127_125 := am (neg_ hg (bk BK125.out)); have BK125 := am (blk_below (bk BK125.out) hb); clear hb hbox hg; have hnb21 := NB127_125.out; have hnc21 := NB125_127.out; obtain ⟨hcz22_0, hcz22_1, hcz22_2, hcz22_3, hfz22_0, hfz22_1, hfz22_2, hfz22_3⟩ := bc4 BK127.out) | (go_at_call 42; (with_reducible refine (change_one.calls k2 ((rd_T43 l0_1 x32_2).f0) ((rd_T43 l0_1 x32_2).f1) ((rd_T43 l0_1 x32_2).f2) _ _ ((rd_T43 l0_1 x32_2).f3) x4_2 t128 t129 t130 _ ?side1 ?side2 ?side3 A14.out).mono ?_); (case side1 => exact Kd.C_below HR126_3.out (bl HB.out)); (case side2 => exact HC126_3.out); (case side3 => exact Tabs.below HT_.out (bl HB.out)); rintro e w23 ⟨rfl, hb⟩; have BK125 := am (blk_below (bk BK125.out) hb); have BK127 := am (blk_below (g := gb127) (o := .cells #[.int .i64 ((rd_T43 l0_1 x32_2).f0), .int .i64 ((rd_T43 l0_1 x32_2).f1), .string ((rd_T43 l0_1 x32_2).f2), .slice A126_3 ((rd_T43 l0_1 x32_2).f3).length c126_3] 43 (0, 0)) (bp BK127.out) hb); have HB := am (below_step (bl HB.out) hb); (try clear hb); (try clear hb2); (try clear hk); (try clear hi)))
        repeat (go_quiet (first | ((with_reducible refine gate_dst (N := 7) rfl ?_); refine bev #[.int .i64 0, .int .i64 0, .string (⟨#[]⟩ : ByteArray), .slice none 0 0] 43 ?_; intro gb127 hg w20 hbox hb; have BK127 := am (hbox); have GW127 := am (szl hg (bl HB.out)); have GE127 := am (szl hg (bl HB.out)); have HB := am (below_step (bl HB.out) hb); have NB125_127 := am (nel hg (bk BK125.out)); have NB127_125 := am (neg_ hg (bk BK125.out)); have BK125 := am (blk_below (bk BK125.out) hb); clear hb hbox hg; have hnb21 := NB127_125.out; have hnc21 := NB125_127.out; obtain ⟨hcz22_0, hcz22_1, hcz22_2, hcz22_3, hfz22_0, hfz22_1, hfz22_2, hfz22_3⟩ := bc4 BK127.out) | (go_at_call 42; (with_reducible refine (change_one.calls k2 ((rd_T43 l0_1 x32_2).f0) ((rd_T43 l0_1 x32_2).f1) ((rd_T43 l0_1 x32_2).f2) _ _ ((rd_T43 l0_1 x32_2).f3) x4_2 t128 t129 t130 _ ?side1 ?side2 ?side3 A14.out).mono ?_); (case side1 => exact Kd.C_below HR126_3.out (bl HB.out)); (case side2 => exact HC126_3.out); (case side3 => exact Tabs.below HT_.out (bl HB.out)); rintro e w23 ⟨rfl, hb⟩; have BK125 := am (blk_below (bk BK125.out) hb); have BK127 := am (blk_below (g := gb127) (o := .cells #[.int .i64 ((rd_T43 l0_1 x32_2).f0), .int .i64 ((rd_T43 l0_1 x32_2).f1), .string ((rd_T43 l0_1 x32_2).f2), .slice A126_3 ((rd_T43 l0_1 x32_2).f3).length c126_3] 43 (0, 0)) (bp BK127.out) hb); have HB := am (below_step (bl HB.out) hb); (try clear hb); (try clear hb2); (try clear hk); (try clear hi))); try go_wp2_with (first | ((with_reducible refine gate_dst (N := 7) rfl ?_); refine bev #[.int .i64 0, .int .i64 0, .string (⟨#[]⟩ : ByteArray), .slice none 0 0] 43 ?_; intro gb127 hg w20 hbox hb; have BK127 := am (hbox); have GW127 := am (szl hg (bl HB.out)); have GE127 := am (szl hg (bl HB.out)); have HB := am (below_step (bl HB.out) hb); have NB125_127 := am (nel hg (bk BK125.out)); have NB127_125 := am (neg_ hg (bk BK125.out)); have BK125 := am (blk_below (bk BK125.out) hb); clear hb hbox hg; have hnb21 := NB127_125.out; have hnc21 := NB125_127.out; obtain ⟨hcz22_0, hcz22_1, hcz22_2, hcz22_3, hfz22_0, hfz22_1, hfz22_2, hfz22_3⟩ := bc4 BK127.out) | (go_at_call 42; (with_reducible refine (change_one.calls k2 ((rd_T43 l0_1 x32_2).f0) ((rd_T43 l0_1 x32_2).f1) ((rd_T43 l0_1 x32_2).f2) _ _ ((rd_T43 l0_1 x32_2).f3) x4_2 t128 t129 t130 _ ?side1 ?side2 ?side3 A14.out).mono ?_); (case side1 => exact Kd.C_below HR126_3.out (bl HB.out)); (case side2 => exact HC126_3.out); (case side3 => exact Tabs.below HT_.out (bl HB.out)); rintro e w23 ⟨rfl, hb⟩; have BK125 := am (blk_below (bk BK125.out) hb); have BK127 := am (blk_below (g := gb127) (o := .cells #[.int .i64 ((rd_T43 l0_1 x32_2).f0), .int .i64 ((rd_T43 l0_1 x32_2).f1), .string ((rd_T43 l0_1 x32_2).f2), .slice A126_3 ((rd_T43 l0_1 x32_2).f3).length c126_3] 43 (0, 0)) (bp BK127.out) hb); have HB := am (below_step (bl HB.out) hb); (try clear hb); (try clear hb2); (try clear hk); (try clear hi))))
        go_ret2
        exact ⟨re, bl HB.out⟩
       rw [if_neg c13] at H
       exact absurd H (by simp)
      rw [if_neg c12] at H
      exact absurd H (by simp)
     rw [if_neg c11] at H
     have c11b0 : decide (x32_2 < (l0_1.length : Int)) = false := decide_eq_false c11
     clear c11
     by_cases c24 : x5_2 > 20000
     ·rw [if_pos c24] at H
      have c24b0 : decide (20000 < x5_2) = true := decide_eq_true c24
      clear c24
      simp only [Option.some.injEq, Prod.mk.injEq] at H
      obtain ⟨rfl, rfl⟩ := H
      go_wp2
      repeat (go_quiet (fail); try go_wp2)
      go_ret2
      exact ⟨re, bl HB.out⟩
     rw [if_neg c24] at H
     have c24b0 : decide (20000 < x5_2) = false := decide_eq_false c24
     clear c24
     simp only [Option.some.injEq, Prod.mk.injEq] at H
     obtain ⟨rfl, rfl⟩ := H
     go_wp2
     repeat (go_quiet (fail); try go_wp2)
     go_ret2
     exact ⟨re, bl HB.out⟩
def change_Right.f (k : Nat) (a0_0 : Int) (l0_1 : List (S43)) : Option (Int) := (change_To.f k a0_0 l0_1).bind fun bt132 => (some bt132.2)
theorem change_Right.mono : ∀ a0 a1 k, LeO (change_Right.f k a0 a1) (change_Right.f (k + 1) a0 a1) := by
 intro a0 a1 k
 unfold change_Right.f
 have m0 := @change_To.mono; exact lo
set_option maxHeartbeats 8000000 in
set_option maxRecDepth 100000 in
theorem change_Right.calls (k : Nat) (a0_0 : Int) (A0_1 : Option Addr) (c0_1 : Nat) (l0_1 : List (S43)) (r : Int) (w : World) (hr0_1 : Kd.C k43 w A0_1 l0_1.length l0_1) (hc0_1 : l0_1.length ≤ c0_1) (hT_ : Tabs w) (h : change_Right.f k a0_0 l0_1 = some r) :
 Calls Tryd.prog 25 #[.agg #[.int .i64 a0_0, .slice A0_1 l0_1.length c0_1]] w fun e w' => e = .returned (.int .i64 r) ∧ Below w.heap.size w w' := by
 have hu26 := Tryd.underlying26
 have HT_ := am hT_
 clear hT_
 have HR0_1 := am hr0_1
 have HC0_1 := am hc0_1
 clear hr0_1 hc0_1
 have HB := am (Below.refl w.heap.size w)
 have H : ((change_To.f k a0_0 l0_1).bind fun bt132 => (some bt132.2)) = some r := h
 clear h
 replace H := Option.bind_eq_some_iff.mp H
 obtain ⟨⟨t132, t133⟩, A20, H⟩ := H
 replace H : (some t133) = some r := H
 have A2 := am A20
 clear A20
 obtain rfl := Option.some.inj H
 go_enter Tryd.func25, Tryd.ntmps25
 go_wp2_with (first | ((with_reducible refine gate_dst (N := 1) rfl ?_); refine bev #[.int .i64 a0_0, .slice A0_1 l0_1.length c0_1] 26 ?_; intro gb131 hg w3 hbox hb; have BK131 := am (hbox); have GW131 := am (szl hg (bl HB.out)); have GE131 := am (szl hg (bl HB.out)); have HB := am (below_step (bl HB.out) hb); clear hb hbox hg; obtain ⟨hcz4_0, hcz4_1, hfz4_0, hfz4_1⟩ := bc2 BK131.out) | ((with_reducible refine gate_callee (f := 16) rfl ?_); refine goesL_ (some 7) rfl rfl Tryd.func16 (by kernel_rfl) rfl #[.agg #[.int .i64 a0_0, .slice A0_1 l0_1.length c0_1]] rfl (by (try simp only [List.map_toArray, List.map_cons, List.map_nil]); first | done | rfl | (simp only [List.length_drop, List.length_take]; rfl)) ?_; (with_reducible refine (change_To.calls k a0_0 _ _ l0_1 t132 t133 _ ?side1 ?side2 ?side3 A2.out).mono ?_); (case side1 => exact ks (Kd.C_below HR0_1.out HB.out)); (case side2 => exact HC0_1.out); (case side3 => exact Tabs.below HT_.out (bl HB.out)); rintro e w5 ⟨rfl, hb⟩; refine ⟨_, rfl, ?_⟩; have BK131 := am (blk_below (bk BK131.out) hb); have HB := am (below_step (bl HB.out) hb); (try clear hb); (try clear hb2); (try clear hk); (try clear hi)))
 go_ret
 exact ⟨re, bl HB.out⟩
def slices_Clone.f (l0 : List (S90)) : Option ((List (S90))) := if l0.length < 4398046511104 then some l0 else none
set_option maxHeartbeats 8000000 in
set_option maxRecDepth 100000 in
theorem slices_Clone.calls (A0 : Option Addr) (c0 : Nat) (l0 : List (S90)) (r : List (S90)) (w : World) (hr0 : Kd.C k90 w A0 l0.length l0) (hc0 : l0.length ≤ c0) (h : slices_Clone.f l0 = some r) :
 Calls Tryd.prog 67 #[.slice A0 l0.length c0] w fun e w' => ∃ v0_ : Value, e = .returned (v0_) ∧ Kd.R k90 90 w' w.heap.size (fun _ => True) v0_ r ∧ Below w.heap.size w w' := by
 unfold slices_Clone.f at h
 by_cases hl : l0.length < 4398046511104
 ·rw [if_pos hl] at h
  obtain rfl := Option.some.inj h
  have heq : ∀ (w : World) (a : Option Addr) (n c n' c' : Nat), (binOp .eql 41 (.slice a n c) (.slice none n' c')).run Tryd.prog w = .ok (.bool a.isNone) w := fun w a n c n' c' => Lib.run_eql_slice_nil w _ _ a n c n' c' Tryd.underlying41
  cases A0 with
  | none =>
   have hn : l0 = [] := by
    cases l0 with
    | nil => rfl
    | cons a b =>
     obtain ⟨ad, e, _⟩ := hr0.2.2 (by simp)
     cases e
   subst hn
   clear hr0 hl h hc0
   go_enter Tryd.func67, Tryd.ntmps67
   go_wp2
   go_ret
   exact ⟨_, rfl, Kd.R_nil _ _ _ _ _, Below.refl _ _⟩
  | some ad =>
   have HR0 := am hr0
   have HC0 := am hc0
   obtain ⟨y294, hy294⟩ : ∃ y_ : List (S90), y_ = (([] : List (S90))) := ⟨_, rfl⟩
   have Ny294 := am hy294
   obtain ⟨y297, hy297⟩ : ∃ y_ : List (S90), y_ = (y294 ++ l0) := ⟨_, rfl⟩
   have Ny297 := am hy297
   have hz_ : y297 = l0 := by rw [hy297, hy294]; rfl
   have hl_ : y294.length + l0.length < 4398046511104 := by rw [hy294]; simpa using hl
   have LM := am hl_
   have HZ := am hz_
   clear hr0 hc0 hl hl_ h hz_ hy294 hy297
   have HB := am (Below.refl w.heap.size w)
   go_enter Tryd.func67, Tryd.ntmps67
   go_wp2_with (first | ((with_reducible refine gate_dst (N := 5) rfl ?_); refine Kd.R_lit k90 _ 90 ?hg (N := 5) ?hd (xs := ([] : List (S90))) (inner := []) (ok := fun _ => True) (okp := fun _ => True) ?hr ?hp (fun _ hk => hk) trivial (Below.refl _ _) (Nat.le_refl _) (by simp) ?_; (case hd => rfl); (case hg => rfl); (case hr => first | (go_simp; done) | (go_simp; rfl)); (case hp => exact (Reps.none _ _)); intro v295 w3 ho4 hb hg_ hnew_; clear hg_ hnew_; (first | rw [← Ny294.out] at ho4 | (simp only [Int.reduceToNat] at ho4; rw [← Ny294.out] at ho4)); have HO296 := am (Kd.R_lower ho4 (below_size (bl HB.out))); have HB := am (below_step (bl HB.out) hb); clear hb ho4) | ((with_reducible refine gate_builtin (b := .append) (xs := #[.tmp 5, .tmp 6]) rfl ?_); at_builtin; refine Kd.R_append_rows k90 (w0 := w) w.heap.size rfl (.tmp 5) (.tmp 6) 41 90 (.agg #[(.string ⟨#[]⟩), (.string ⟨#[]⟩)]) 32 rfl Tryd.underlying41 info90 rfl (by decide) (by omega) v295 y294 l0 _ _ _ (fun _ => True) (fun _ => False) rfl rfl ?aO ?aR (fun _ _ h => h) (fun _ h => h.elim) ?aF ?aB ?aS ?aL ?_; (case aR => exact ks (Kd.C_below HR0.out HB.out)); (case aB => exact (bl HB.out)); (case aF => exact (fun _ _ => trivial)); (case aO => exact (ks HO296.out)); (case aS => exact (below_size (bl HB.out))); (case aL => have := LM.out; omega); intro v298 w5 ho hb hg hat; rw [← Ny297.out] at ho; have HB := am (hb); have HO299 := am (ho); clear ho hb hg hat))
   go_ret
   exact ⟨_, rfl, by (with_reducible repeat (first | apply Kd.R_alloc | apply Kd.R_drewN | apply Kd.R_drew)); rw [← HZ.out]; exact HO299.out, bl HB.out⟩
 rw [if_neg hl] at h
 cases h
end Go.Proofs.YtinbpjodheceoaaDoor.Sp
