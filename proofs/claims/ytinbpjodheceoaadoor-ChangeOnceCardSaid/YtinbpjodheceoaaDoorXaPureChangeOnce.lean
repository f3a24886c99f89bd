/- The pure statement of ChangeOnce: the normal form may be, is normal, is as long, and its own. -/
import Derived.Test.YtinbpjodheceoaaDoorXaSemF
import Derived.Test.YtinbpjodheceoaaDoorXaSemW
import Derived.Test.YtinbpjodheceoaaDoorXaSp15
namespace Go.Proofs.YtinbpjodheceoaaDoor.Pure
open Go.RowKit Go.Proofs.YtinbpjodheceoaaDoorW.PrintWords Go.Proofs.YtinbpjodheceoaaDoorW.PrintLast Go.Proofs.YtinbpjodheceoaaDoor.Sp Go.Proofs.YtinbpjodheceoaaDoor.Sem
set_option linter.unusedVariables false
theorem nf_suffix : ∀ (x r : List S43), NF (x ++ r) → NF r
  | [], _, h => h
  | _ :: x, r, h => nf_suffix x r h.1
theorem nf_pairs {r : List S43} (h : NF r) (i : Nat) (hi : i + 1 < r.reverse.length) (h3 : (r.reverse[i]'(by omega)).f0 = 3) : (r.reverse[i + 1]).f0 = 1 := by
  have hl := @List.length_reverse _ r
  have e : r.reverse = r.reverse.take i ++ r.reverse[i]'(by omega) :: r.reverse[i + 1] :: r.reverse.drop (i + 2) := by
    rw [← drop_step r.reverse (i + 1) hi, ← drop_step r.reverse i (by omega), List.take_append_drop]
  have e2 := congrArg List.reverse e
  rw [List.reverse_reverse, List.reverse_append, List.reverse_cons, List.reverse_cons, List.append_assoc, List.append_assoc] at e2
  rw [e2] at h
  have h' := nf_suffix _ _ h
  exact (h'.2 _ rfl).2 h3
theorem once_loop (n : Int) (frm : Int) (r : List S43) (hn : NF r) (he : NoPlain r) (hs : r.length ≤ 2000) : ∀ (d i : Nat), 1 ≤ i → r.length ≤ i + d →
    Ev (fun k => blotterlaw03_ChangeOnce.l0 k n 0 n 0 true true (i : Int) frm r.reverse) true
  | 0, i, h1, hd => by
    have hl := @List.length_reverse _ r
    refine Ev.step (f := fun _ => some true) (fun k => ?_) (Ev.now _)
    simp only [blotterlaw03_ChangeOnce.l0]
    rw [if_neg (by omega)]
    simp only [if_true]
    cases r with
    | nil => exact if_pos (show wrap64 (((0 : Nat) : Int) - 1) < 0 from by unfold wrap64; omega)
    | cons p t =>
      simp only [List.reverse_cons, List.length_append, List.length_reverse, List.length_singleton]
      simp only [List.length_cons] at hs
      have ew : wrap64 (((t.length + 1 : Nat) : Int) - 1) = (t.length : Int) := by unfold wrap64; omega
      simp only [ew, last43]
      rw [if_neg (by omega), if_pos (by omega), if_pos (by omega)]
      by_cases k1 : p.f0 = 1
      · rw [if_pos k1]
        have : p.f3 ≠ [] := fun e => he p rfl ⟨k1, e⟩
        have : 0 < p.f3.length := List.length_pos_iff.2 this
        rw [decide_eq_true (by omega)]
      · rw [if_neg k1]
  | d + 1, i, h1, hd => by
    have hl := @List.length_reverse _ r
    by_cases hi : i < r.length
    · have ih := once_loop n frm r hn he hs d (i + 1) (by omega) (by omega)
      have ew : wrap64 ((i : Int) - 1) = ((i - 1 : Nat) : Int) := by unfold wrap64; omega
      have j2f : Ev (fun k => blotterlaw03_ChangeOnce.j2 k n 0 n 0 true true (i : Int) false frm r.reverse) true := by
        refine Ev.step (f := fun k => blotterlaw03_ChangeOnce.l0 k n 0 n 0 true true ((i + 1 : Nat) : Int) frm r.reverse) (fun k => ?_) ih
        simp only [blotterlaw03_ChangeOnce.j2]
        rw [wrap_nat i (by omega)]; rfl
      refine Ev.step (f := fun k => blotterlaw03_ChangeOnce.j2 k n 0 n 0 true true (i : Int) false frm r.reverse) (fun k => ?_) j2f
      simp only [blotterlaw03_ChangeOnce.l0]
      rw [if_pos (by omega), ew, if_pos (by omega), if_pos (by omega), rd43 _ _ (by omega)]
      by_cases h3 : (r.reverse[i - 1]'(by omega)).f0 = 3
      · rw [if_pos h3, if_pos (by omega), rd43 _ _ (by omega)]
        obtain ⟨m, rfl⟩ : ∃ m, i = m + 1 := ⟨i - 1, by omega⟩
        have := nf_pairs hn m (by omega) h3
        rw [this]; rfl
      · rw [if_neg h3]
    · exact once_loop n frm r hn he hs 0 i h1 (by omega)
theorem ChangeOnce (frm : Int) (l : List S43) (hg : GoodOps l) : ∃ k, blotterlaw03_ChangeOnce.f k frm l = some true := by
  apply Ev.rounds (g := fun k => blotterlaw03_ChangeOnce.f k frm l)
  unfold blotterlaw03_ChangeOnce.f
  refine Ev.bind awake_ev (Ev.bind (normal_ev frm l hg) (Ev.bind (to_ev frm l hg) ?_))
  simp only [if_true]
  by_cases h : (toS frm l).2 = 0
  · have hr := toS_right h
    obtain ⟨nr, nm, _⟩ := norm_right hr
    have nn := norm_nf hr.ok
    have hlen : (normR l).length ≤ 2000 := by have := nr.len; rwa [List.length_reverse] at this
    rw [normS_ok hr, toS_ok hr]
    simp only [bne_self_eq_false]
    refine Ev.step (f := fun k => (change_Normal.f k frm (normR l).reverse).bind fun a => (change_To.f k frm (normR l).reverse).bind fun b => (change_Same.f k frm (normR l).reverse a.1 a.2.1).bind fun c => (change_Is.f k frm (normR l).reverse).bind fun d => blotterlaw03_ChangeOnce.l0 k (frm + more l) a.2.2 b.1 b.2 c d 1 frm (normR l).reverse) (fun k => by simp only [blotterlaw03_ChangeOnce.j0]; rfl) ?_
    refine Ev.bind (normal_ev _ _ nr.good) (Ev.bind (to_ev _ _ nr.good) ?_)
    rw [normS_ok nr, toS_ok nr, norm_norm hr, nm]
    refine Ev.bind (samec_ev _ _ _ _ nr.good.len nr.good.attrs) (Ev.bind (is_ev _ _ nr.good) ?_)
    rw [isS_norm hr, decide_eq_true ⟨rfl, rfl⟩]
    exact once_loop (frm + more l) frm (normR l) nn.1 nn.2 hlen (normR l).length 1 (by omega) (by omega)
  · have e : normS frm l = (0, [], (toS frm l).2) := by unfold normS; rw [if_neg h]
    rw [e]
    simp only [bne_self_eq_false]
    refine Ev.step (f := fun _ => some true) (fun k => ?_) (Ev.now _)
    simp only [blotterlaw03_ChangeOnce.j0]
    rw [if_neg (by simp), if_neg h]; rfl
end Go.Proofs.YtinbpjodheceoaaDoor.Pure
