/- The pure statement of AnchorStays: what changes nothing moves nothing; a lost range stays lost. -/
import Derived.Test.YtinbpjodheceoaaDoorXcSemH
import Derived.Test.YtinbpjodheceoaaDoorXcSemV
import Derived.Test.YtinbpjodheceoaaDoorXcSp22
namespace Go.Proofs.YtinbpjodheceoaaDoor.Pure
open Go.RowKit Go.Proofs.YtinbpjodheceoaaDoorW.PrintWords Go.Proofs.YtinbpjodheceoaaDoorW.PrintLast Go.Proofs.YtinbpjodheceoaaDoor.Sp Go.Proofs.YtinbpjodheceoaaDoor.Sem
set_option linter.unusedVariables false
theorem stays_nothing {n f t : Int} {b : Bool} (h : (moveS n [] f t b).2.2.2 = 0) : (moveS n [] f t b) = (f, t, b, 0) := by
  unfold moveS at h ⊢
  by_cases h1 : (toS n []).2 = 0
  · have hr := toS_right h1
    rw [if_pos h1] at h ⊢
    by_cases h2 : RangeOk f t b n
    · rw [if_pos h2]
      obtain ⟨a0, a1, a2, a3⟩ := h2
      simp only
      rw [placed_ok hr true a0 (by omega), placed_ok hr false (by omega) a1, norm_nil, List.reverse_nil, shift_nil a0, shift_nil (by omega)]
      simp only
      by_cases hb : b = true
      · rw [if_pos hb]
        have : f = t := by rw [hb] at a3; simpa using a3.symm
        subst this
        rw [hb]; simp
      · rw [if_neg hb, ← a3]
    · rw [if_neg h2] at h; simp at h
  · rw [if_neg h1] at h
    simp only at h
    exact absurd h h1
theorem stays_lost {frm : Int} {l : List S43} {f t : Int} (h : (moveS frm l f t true).2.2.2 = 0) : (moveS frm l f t true).2.2.1 = true ∧ (moveS frm l f t true).1 = (moveS frm l f t true).2.1 := by
  unfold moveS at h ⊢
  by_cases h1 : (toS frm l).2 = 0
  · rw [if_pos h1] at h ⊢
    by_cases h2 : RangeOk f t true frm
    · rw [if_pos h2]; simp
    · rw [if_neg h2] at h; simp at h
  · rw [if_neg h1] at h
    simp only at h
    exact absurd h h1
theorem AnchorStays (n f t : Int) (b : Bool) (frm : Int) (l : List S43) (hn : (Lit.int .i64 n).wf = true) (hg : GoodOps l) : ∃ k, blotterlaw08_AnchorStays.f k n f t b frm l = some true := by
  apply Ev.rounds (g := fun k => blotterlaw08_AnchorStays.f k n f t b frm l)
  unfold blotterlaw08_AnchorStays.f
  refine Ev.bind awake8_ev (Ev.bind (move_ev n [] good_nil f t b) ?_)
  simp only [if_true]
  have hj : Ev (fun k => blotterlaw08_AnchorStays.j0 k false f t b frm l) true := by
    refine Ev.step (f := fun k => (anchor_Move.f k frm l f t b).bind fun x => if x.2.2.2 = 0 then (if b = true then (if x.2.2.1 = true then (some (x.1 == x.2.1)) else none) else some true) else some true) (fun k => by simp only [blotterlaw08_AnchorStays.j0]; rfl) (Ev.bind (move_ev frm l hg f t b) ?_)
    by_cases h : (moveS frm l f t b).2.2.2 = 0
    · simp only [if_pos h]
      by_cases hb : b = true
      · subst hb
        obtain ⟨e1, e2⟩ := stays_lost h
        simp only [if_true, if_pos e1, e2, beq_self_eq_true]; exact Ev.now _
      · simp only [if_neg hb]; exact Ev.now _
    · simp only [if_neg h]; exact Ev.now _
  by_cases h : (moveS n [] f t b).2.2.2 = 0
  · simp only [if_pos h]
    rw [stays_nothing h]
    simp only [beq_self_eq_true, Bool.not_true, Bool.or_false]
    exact hj
  · simp only [if_neg h]; exact hj
end Go.Proofs.YtinbpjodheceoaaDoor.Pure
