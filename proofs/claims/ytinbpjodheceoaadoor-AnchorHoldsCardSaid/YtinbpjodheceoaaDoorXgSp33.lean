/- Written by this session's programs (sprint.py, prune.py). -/
import Derived.Test.YtinbpjodheceoaaDoorXgSp0
namespace Go.Proofs.YtinbpjodheceoaaDoor.Sp
open Go.RowKit Go.Proofs.YtinbpjodheceoaaDoorW.PrintWords Go.Proofs.YtinbpjodheceoaaDoorW.PrintLast Go.Proofs.YtinbpjodheceoaaDoorW.PrintMore
attribute [local go_sem] max2_int min2_int max_two min_two max_three min_three max_four min_four   -- for this text's walks alone
set_option linter.unusedVariables false
set_option linter.unusedSimpArgs false
attribute [local go_sem] own_leq own_gtr own_geq   -- for this text's walks alone
def blotterref03_copied.f (l0 : List (S90)) : Option ((List (S90))) := (some (([] : List (S90)) : List (S90))).bind fun y532 => (if y532.length + l0.length < 4398046511104 then (some (y532 ++ l0)) else (none))
set_option maxHeartbeats 8000000 in
set_option maxRecDepth 100000 in
theorem blotterref03_copied.calls (A0 : Option Addr) (c0 : Nat) (l0 : List (S90)) (r : List (S90)) (w : World) (hr0 : Kd.C k90 w A0 l0.length l0) (hc0 : l0.length ≤ c0) (h : blotterref03_copied.f l0 = some r) :
 Calls Tryd.prog 56 #[.slice A0 l0.length c0] w fun e w' => ∃ v0_ : Value, e = .returned (v0_) ∧ Kd.R k90 90 w' w.heap.size (fun _ => True) v0_ r ∧ Below w.heap.size w w' := by
 have HR0 := am hr0
 have HC0 := am hc0
 clear hr0 hc0
 have HB := am (Below.refl w.heap.size w)
 have H : ((some (([] : List (S90)) : List (S90))).bind fun y532 => (if y532.length + l0.length < 4398046511104 then (some (y532 ++ l0)) else (none))) = some r := h
 clear h
 obtain ⟨y532, hy532⟩ : ∃ y_ : List (S90), y_ = (([] : List (S90))) := ⟨_, rfl⟩
 replace H : (if y532.length + l0.length < 4398046511104 then (some (y532 ++ l0)) else (none)) = some r := by first | (rw [hy532]; with_reducible exact H) | (have H2_ := (Option.bind_some _ _).symm.trans H; rw [hy532]; with_reducible exact H2_) | (have H2_ := (Option.bind_some _ _).symm.trans H; with_reducible exact H2_) | with_reducible exact H | (rw [hy532]; exact H) | exact H
 have Ny532 := am hy532
 clear hy532
 by_cases c2 : y532.length + l0.length < 4398046511104
 ·rw [if_pos c2] at H
  have LMc2 := am c2
  clear c2
  obtain ⟨y535, hy535⟩ : ∃ y_ : List (S90), y_ = (y532 ++ l0) := ⟨_, rfl⟩
  replace H : (some y535) = some r := by first | (rw [hy535]; with_reducible exact H) | (have H2_ := (Option.bind_some _ _).symm.trans H; rw [hy535]; with_reducible exact H2_) | (have H2_ := (Option.bind_some _ _).symm.trans H; with_reducible exact H2_) | with_reducible exact H | (rw [hy535]; exact H) | exact H
  have Ny535 := am hy535
  clear hy535
  obtain rfl := Option.some.inj H
  go_enter Tryd.func56, Tryd.ntmps56
  go_wp2_with (first | ((with_reducible refine gate_dst (N := 3) rfl ?_); refine Kd.R_lit k90 _ 90 ?hg (N := 3) ?hd (xs := ([] : List (S90))) (inner := []) (ok := fun _ => True) (okp := fun _ => True) ?hr ?hp (fun _ hk => hk) trivial (Below.refl _ _) (Nat.le_refl _) (by simp) ?_; (case hd => rfl); (case hg => rfl); (case hr => first | (go_simp; done) | (go_simp; rfl)); (case hp => exact (Reps.none _ _)); intro v533 w3 ho4 hb hg_ hnew_; clear hg_ hnew_; (first | rw [← Ny532.out] at ho4 | (simp only [Int.reduceToNat] at ho4; rw [← Ny532.out] at ho4)); have HO534 := am (Kd.R_lower ho4 (below_size (bl HB.out))); have HB := am (below_step (bl HB.out) hb); clear hb ho4) | ((with_reducible refine gate_builtin (b := .append) (xs := #[.tmp 3, .tmp 4]) rfl ?_); at_builtin; refine Kd.R_append_rows k90 (w0 := w) w.heap.size rfl (.tmp 3) (.tmp 4) 41 90 (.agg #[(.string ⟨#[]⟩), (.string ⟨#[]⟩)]) 32 rfl Tryd.underlying41 info90 rfl (by decide) (by omega) v533 y532 l0 _ _ _ (fun _ => True) (fun _ => False) rfl rfl ?aO ?aR (fun _ _ h => h) (fun _ h => h.elim) ?aF ?aB ?aS ?aL ?_; (case aR => exact ks (Kd.C_below HR0.out HB.out)); (case aB => exact (bl HB.out)); (case aF => exact (fun _ _ => trivial)); (case aO => exact (ks HO534.out)); (case aS => exact (below_size (bl HB.out))); (case aL => have := LMc2.out; omega); intro v536 w5 ho hb hg hat; rw [← Ny535.out] at ho; have HB := am (hb); have HO537 := am (ho); clear ho hb hg hat))
  go_ret
  exact ⟨_, re, ks HO537.out, bl HB.out⟩
 rw [if_neg c2] at H
 exact absurd H (by simp)
end Go.Proofs.YtinbpjodheceoaaDoor.Sp
