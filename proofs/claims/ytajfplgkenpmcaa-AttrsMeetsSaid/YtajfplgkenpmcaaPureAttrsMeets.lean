/- The pure statement of AttrsMeets: two changes come to the same in whatever order. -/
import Derived.Test.YtajfplgkenpmcaaSemD
import Derived.Test.YtajfplgkenpmcaaSemAwake
import Derived.Test.YtajfplgkenpmcaaOpenAttr
import Derived.Test.YtajfplgkenpmcaaSp14
namespace Go.Proofs.Ytajfplgkenpmcaa.Pure
open Go.RowKit Go.Proofs.YtajfplgkenpmcaaW.PrintWords Go.Proofs.Ytajfplgkenpmcaa.Sp Go.Proofs.Ytajfplgkenpmcaa.Open Go.Proofs.Ytajfplgkenpmcaa.Sem
theorem AttrsMeets (l0 l1 l2 : List S36) (a3 : Bool) (h0 : GoodAttrs l0) (h1 : GoodAttrs l1) (h2 : GoodAttrs l2) : ∃ k, blotterlaw02_AttrsMeets.f k l0 l1 l2 a3 = some true := by
  have s0 : Small l0 := ⟨h0.2.1, h0.2.2⟩
  have s1 : Small l1 := ⟨h1.2.1, h1.2.2⟩
  have s2 : Small l2 := ⟨h2.2.1, h2.2.2⟩
  apply Ev.rounds (g := fun k => blotterlaw02_AttrsMeets.f k l0 l1 l2 a3)
  unfold blotterlaw02_AttrsMeets.f
  refine Ev.bind awake_ev (Ev.bind (apply_ev l0 l1 s0 s1) (Ev.bind (apply_ev l0 l2 s0 s2) ?_))
  simp only [if_true]
  have out : ∀ (x y : List S36), Ev (fun k => blotterlaw02_AttrsMeets.j0 k l1 l2 a3 true x y true) true := fun x y =>
    Ev.step (f := fun _ => some true) (fun k => by simp only [blotterlaw02_AttrsMeets.j0]; rfl) (Ev.now _)
  by_cases e1 : (applyS l0 l1).2 = 0
  · simp only [e1, if_true]
    by_cases e2 : (applyS l0 l2).2 = 0
    · have hx : applyS l0 l1 = ((applyS l0 l1).1, 0) := by rw [← e1]
      have hy : applyS l0 l2 = ((applyS l0 l2).1, 0) := by rw [← e2]
      obtain ⟨hr, ha, ex, hx8⟩ := apply_ok hx
      obtain ⟨_, hb, ey, hy8⟩ := apply_ok hy
      rw [ex] at hx8
      rw [ey] at hy8
      have hl := meets_law a3 hr ha hb hx8 hy8
      simp only [e2, ex, ey, bne_self_eq_false]
      have c1 := apply_ri hr ha hx8
      have c2 := apply_ri hr hb hy8
      have f1 := follow_eq a3 ha hb
      have f2 := follow_eq (!a3) hb ha
      have g1 := follow_ch a3 ha hb
      have g2 := follow_ch (!a3) hb ha
      refine Ev.step (f := fun k => (attrs_Follow.f k l1 l2 a3).bind fun p => (attrs_Follow.f k l2 l1 (!a3)).bind fun q => (attrs_Apply.f k (mergeS (0, false) l0 l1) p.1).bind fun z => (attrs_Apply.f k (mergeS (0, false) l0 l2) q.1).bind fun w =>
        if p.2 = 0 then if q.2 = 0 then if z.2 = w.2 then if z.2 = 0 then (attrs_Same.f k z.1 w.1).bind fun t => some t else some true else some false else some false else some false) (fun k => by simp only [blotterlaw02_AttrsMeets.j0]; simp) ?_
      refine Ev.bind (follow_ev l1 l2 a3 s1 s2) (Ev.bind (follow_ev l2 l1 (!a3) s2 s1) ?_)
      rw [f1, f2]
      refine Ev.bind (apply_ev _ _ c1.1.small g1.small) (Ev.bind (apply_ev _ _ c2.1.small g2.small) ?_)
      rw [hl]
      simp only [if_true]
      split
      · refine Ev.bind (f := fun _ t => some t) (same_ev _ _ (by have := apply_len (mergeS (0, false) l0 l2) (mergeS (2, !a3) l2 l1); omega)) (by simpa using Ev.now true)
      · exact Ev.now true
    · simp only [show ((applyS l0 l2).2 != 0) = true from by simpa using e2]
      exact out _ _
  · simp only [e1, if_false]
    exact out _ _
end Go.Proofs.Ytajfplgkenpmcaa.Pure
