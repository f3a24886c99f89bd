/- Written by this session's programs (sprint.py, prune.py). -/
import Derived.Test.YtinbpjodheceoaaDoorXgSp0
namespace Go.Proofs.YtinbpjodheceoaaDoor.Sp
open Go.RowKit Go.Proofs.YtinbpjodheceoaaDoorW.PrintWords Go.Proofs.YtinbpjodheceoaaDoorW.PrintLast Go.Proofs.YtinbpjodheceoaaDoorW.PrintMore
attribute [local go_sem] max2_int min2_int max_two min_two max_three min_three max_four min_four   -- for this text's walks alone
set_option linter.unusedVariables false
set_option linter.unusedSimpArgs false
attribute [local go_sem] own_leq own_gtr own_geq   -- for this text's walks alone
def blotterref03_formed.f (a0_0 : Int) (a0_1 : Int) (a0_2 : ByteArray) (l0_3 : List (S90)) : Option (Bool) := if a0_0 = 1 then (if a0_1 ≥ 1 then (some (a0_2.toList == ([] : List UInt8))) else (some false)) else (if a0_0 = 2 then (if a0_1 = 0 then (some (a0_2.toList != ([] : List UInt8))) else (some false)) else (if a0_0 = 3 then (if a0_1 ≥ 1 then (if a0_2.toList = ([] : List UInt8) then (some ((l0_3.length : Int) == 0)) else (some false)) else (some false)) else (some false)))
set_option maxHeartbeats 8000000 in
set_option maxRecDepth 100000 in
theorem blotterref03_formed.calls (a0_0 : Int) (a0_1 : Int) (a0_2 : ByteArray) (A0_3 : Option Addr) (c0_3 : Nat) (l0_3 : List (S90)) (r : Bool) (w : World) (hr0_3 : Kd.C k90 w A0_3 l0_3.length l0_3) (hc0_3 : l0_3.length ≤ c0_3) (h : blotterref03_formed.f a0_0 a0_1 a0_2 l0_3 = some r) :
 Calls Tryd.prog 69 #[.agg #[.int .i64 a0_0, .int .i64 a0_1, .string a0_2, .slice A0_3 l0_3.length c0_3]] w fun e w' => e = .returned (.bool r) ∧ Below w.heap.size w w' := by
 have hu43 := Tryd.underlying43
 have HR0_3 := am hr0_3
 have HC0_3 := am hc0_3
 clear hr0_3 hc0_3
 have HB := am (Below.refl w.heap.size w)
 have H : (if a0_0 = 1 then (if a0_1 ≥ 1 then (some (a0_2.toList == ([] : List UInt8))) else (some false)) else (if a0_0 = 2 then (if a0_1 = 0 then (some (a0_2.toList != ([] : List UInt8))) else (some false)) else (if a0_0 = 3 then (if a0_1 ≥ 1 then (if a0_2.toList = ([] : List UInt8) then (some ((l0_3.length : Int) == 0)) else (some false)) else (some false)) else (some false)))) = some r := h
 clear h
 by_cases c2 : a0_0 = 1
 ·rw [if_pos c2] at H
  have c2b0 : (a0_0 == 1) = true := beq_iff_eq.mpr c2
  have c2b1 : (a0_0 != 1) = false := bne_eq_false_iff_eq.mpr c2
  clear c2
  by_cases c3 : a0_1 ≥ 1
  ·rw [if_pos c3] at H
   have c3b0 : decide (1 ≤ a0_1) = true := decide_eq_true c3
   clear c3
   obtain rfl := Option.some.inj H
   go_enter Tryd.func69, Tryd.ntmps69
   go_wp2_with (first | ((with_reducible refine gate_dst (N := 1) rfl ?_); (try (refine gate_guard (by rfl) ?_; dsimp only)); refine bev #[.int .i64 a0_0, .int .i64 a0_1, .string a0_2, .slice A0_3 l0_3.length c0_3] 43 ?_; intro gb502 hg w4 hbox hb; have BK502 := am (hbox); have GW502 := am (szl hg (bl HB.out)); have GE502 := am (szl hg (bl HB.out)); have HB := am (below_step (bl HB.out) hb); clear hb hbox hg; obtain ⟨hcz5_0, hcz5_1, hcz5_2, hcz5_3, hfz5_0, hfz5_1, hfz5_2, hfz5_3⟩ := bc4 BK502.out))
   go_ret
   exact ⟨re, bl HB.out⟩
  rw [if_neg c3] at H
  have c3b0 : decide (1 ≤ a0_1) = false := decide_eq_false c3
  clear c3
  obtain rfl := Option.some.inj H
  go_enter Tryd.func69, Tryd.ntmps69
  go_wp2_with (first | ((with_reducible refine gate_dst (N := 1) rfl ?_); (try (refine gate_guard (by rfl) ?_; dsimp only)); refine bev #[.int .i64 a0_0, .int .i64 a0_1, .string a0_2, .slice A0_3 l0_3.length c0_3] 43 ?_; intro gb502 hg w6 hbox hb; have BK502 := am (hbox); have GW502 := am (szl hg (bl HB.out)); have GE502 := am (szl hg (bl HB.out)); have HB := am (below_step (bl HB.out) hb); clear hb hbox hg; obtain ⟨hcz7_0, hcz7_1, hcz7_2, hcz7_3, hfz7_0, hfz7_1, hfz7_2, hfz7_3⟩ := bc4 BK502.out))
  go_ret
  exact ⟨re, bl HB.out⟩
 rw [if_neg c2] at H
 have c2b0 : (a0_0 == 1) = false := beq_eq_false_iff_ne.mpr c2
 have c2b1 : (a0_0 != 1) = true := bne_iff_ne.mpr c2
 by_cases c8 : a0_0 = 2
 ·rw [if_pos c8] at H
  have c8b0 : (a0_0 == 2) = true := beq_iff_eq.mpr c8
  have c8b1 : (a0_0 != 2) = false := bne_eq_false_iff_eq.mpr c8
  clear c8
  by_cases c9 : a0_1 = 0
  ·rw [if_pos c9] at H
   have c9b0 : (a0_1 == 0) = true := beq_iff_eq.mpr c9
   have c9b1 : (a0_1 != 0) = false := bne_eq_false_iff_eq.mpr c9
   clear c9
   obtain rfl := Option.some.inj H
   go_enter Tryd.func69, Tryd.ntmps69
   go_wp2_with (first | ((with_reducible refine gate_dst (N := 1) rfl ?_); (try (refine gate_guard (by rfl) ?_; dsimp only)); refine bev #[.int .i64 a0_0, .int .i64 a0_1, .string a0_2, .slice A0_3 l0_3.length c0_3] 43 ?_; intro gb502 hg w10 hbox hb; have BK502 := am (hbox); have GW502 := am (szl hg (bl HB.out)); have GE502 := am (szl hg (bl HB.out)); have HB := am (below_step (bl HB.out) hb); clear hb hbox hg; obtain ⟨hcz11_0, hcz11_1, hcz11_2, hcz11_3, hfz11_0, hfz11_1, hfz11_2, hfz11_3⟩ := bc4 BK502.out))
   go_ret
   exact ⟨re, bl HB.out⟩
  rw [if_neg c9] at H
  have c9b0 : (a0_1 == 0) = false := beq_eq_false_iff_ne.mpr c9
  have c9b1 : (a0_1 != 0) = true := bne_iff_ne.mpr c9
  obtain rfl := Option.some.inj H
  go_enter Tryd.func69, Tryd.ntmps69
  go_wp2_with (first | ((with_reducible refine gate_dst (N := 1) rfl ?_); (try (refine gate_guard (by rfl) ?_; dsimp only)); refine bev #[.int .i64 a0_0, .int .i64 a0_1, .string a0_2, .slice A0_3 l0_3.length c0_3] 43 ?_; intro gb502 hg w12 hbox hb; have BK502 := am (hbox); have GW502 := am (szl hg (bl HB.out)); have GE502 := am (szl hg (bl HB.out)); have HB := am (below_step (bl HB.out) hb); clear hb hbox hg; obtain ⟨hcz13_0, hcz13_1, hcz13_2, hcz13_3, hfz13_0, hfz13_1, hfz13_2, hfz13_3⟩ := bc4 BK502.out))
  go_ret
  exact ⟨re, bl HB.out⟩
 rw [if_neg c8] at H
 have c8b0 : (a0_0 == 2) = false := beq_eq_false_iff_ne.mpr c8
 have c8b1 : (a0_0 != 2) = true := bne_iff_ne.mpr c8
 by_cases c14 : a0_0 = 3
 ·rw [if_pos c14] at H
  have c14b0 : (a0_0 == 3) = true := beq_iff_eq.mpr c14
  have c14b1 : (a0_0 != 3) = false := bne_eq_false_iff_eq.mpr c14
  clear c14
  by_cases c15 : a0_1 ≥ 1
  ·rw [if_pos c15] at H
   have c15b0 : decide (1 ≤ a0_1) = true := decide_eq_true c15
   clear c15
   by_cases c16 : a0_2.toList = ([] : List UInt8)
   ·rw [if_pos c16] at H
    have c16b0 : (a0_2.toList == ([] : List UInt8)) = true := beq_iff_eq.mpr c16
    have c16b1 : (a0_2.toList != ([] : List UInt8)) = false := bne_eq_false_iff_eq.mpr c16
    clear c16
    obtain rfl := Option.some.inj H
    go_enter Tryd.func69, Tryd.ntmps69
    go_wp2_with (first | ((with_reducible refine gate_dst (N := 1) rfl ?_); (try (refine gate_guard (by rfl) ?_; dsimp only)); refine bev #[.int .i64 a0_0, .int .i64 a0_1, .string a0_2, .slice A0_3 l0_3.length c0_3] 43 ?_; intro gb502 hg w17 hbox hb; have BK502 := am (hbox); have GW502 := am (szl hg (bl HB.out)); have GE502 := am (szl hg (bl HB.out)); have HB := am (below_step (bl HB.out) hb); clear hb hbox hg; obtain ⟨hcz18_0, hcz18_1, hcz18_2, hcz18_3, hfz18_0, hfz18_1, hfz18_2, hfz18_3⟩ := bc4 BK502.out))
    go_ret
    exact ⟨re, bl HB.out⟩
   rw [if_neg c16] at H
   have c16b0 : (a0_2.toList == ([] : List UInt8)) = false := beq_eq_false_iff_ne.mpr c16
   have c16b1 : (a0_2.toList != ([] : List UInt8)) = true := bne_iff_ne.mpr c16
   obtain rfl := Option.some.inj H
   go_enter Tryd.func69, Tryd.ntmps69
   go_wp2_with (first | ((with_reducible refine gate_dst (N := 1) rfl ?_); (try (refine gate_guard (by rfl) ?_; dsimp only)); refine bev #[.int .i64 a0_0, .int .i64 a0_1, .string a0_2, .slice A0_3 l0_3.length c0_3] 43 ?_; intro gb502 hg w19 hbox hb; have BK502 := am (hbox); have GW502 := am (szl hg (bl HB.out)); have GE502 := am (szl hg (bl HB.out)); have HB := am (below_step (bl HB.out) hb); clear hb hbox hg; obtain ⟨hcz20_0, hcz20_1, hcz20_2, hcz20_3, hfz20_0, hfz20_1, hfz20_2, hfz20_3⟩ := bc4 BK502.out))
   go_ret
   exact ⟨re, bl HB.out⟩
  rw [if_neg c15] at H
  have c15b0 : decide (1 ≤ a0_1) = false := decide_eq_false c15
  clear c15
  obtain rfl := Option.some.inj H
  go_enter Tryd.func69, Tryd.ntmps69
  go_wp2_with (first | ((with_reducible refine gate_dst (N := 1) rfl ?_); (try (refine gate_guard (by rfl) ?_; dsimp only)); refine bev #[.int .i64 a0_0, .int .i64 a0_1, .string a0_2, .slice A0_3 l0_3.length c0_3] 43 ?_; intro gb502 hg w21 hbox hb; have BK502 := am (hbox); have GW502 := am (szl hg (bl HB.out)); have GE502 := am (szl hg (bl HB.out)); have HB := am (below_step (bl HB.out) hb); clear hb hbox hg; obtain ⟨hcz22_0, hcz22_1, hcz22_2, hcz22_3, hfz22_0, hfz22_1, hfz22_2, hfz22_3⟩ := bc4 BK502.out))
  go_ret
  exact ⟨re, bl HB.out⟩
 rw [if_neg c14] at H
 have c14b0 : (a0_0 == 3) = false := beq_eq_false_iff_ne.mpr c14
 have c14b1 : (a0_0 != 3) = true := bne_iff_ne.mpr c14
 obtain rfl := Option.some.inj H
 go_enter Tryd.func69, Tryd.ntmps69
 go_wp2_with (first | ((with_reducible refine gate_dst (N := 1) rfl ?_); (try (refine gate_guard (by rfl) ?_; dsimp only)); refine bev #[.int .i64 a0_0, .int .i64 a0_1, .string a0_2, .slice A0_3 l0_3.length c0_3] 43 ?_; intro gb502 hg w23 hbox hb; have BK502 := am (hbox); have GW502 := am (szl hg (bl HB.out)); have GE502 := am (szl hg (bl HB.out)); have HB := am (below_step (bl HB.out) hb); clear hb hbox hg; obtain ⟨hcz24_0, hcz24_1, hcz24_2, hcz24_3, hfz24_0, hfz24_1, hfz24_2, hfz24_3⟩ := bc4 BK502.out))
 go_ret
 exact ⟨re, bl HB.out⟩
end Go.Proofs.YtinbpjodheceoaaDoor.Sp
