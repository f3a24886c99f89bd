/- The pure statement of AttrsThree: whichever two of three changes are made one first, the same comes of it. -/
import Derived.Test.YtajfplgkenpmcaaSemD
import Derived.Test.YtajfplgkenpmcaaSemAwake
import Derived.Test.YtajfplgkenpmcaaOpenAttr
import Derived.Test.YtajfplgkenpmcaaSp17
namespace Go.Proofs.Ytajfplgkenpmcaa.Pure
open Go.RowKit Go.Proofs.YtajfplgkenpmcaaW.PrintWords Go.Proofs.Ytajfplgkenpmcaa.Sp Go.Proofs.Ytajfplgkenpmcaa.Open Go.Proofs.Ytajfplgkenpmcaa.Sem
theorem AttrsThree (l0 l1 l2 : List S36) (h0 : GoodAttrs l0) (h1 : GoodAttrs l1) (h2 : GoodAttrs l2) : ∃ k, blotterlaw02_AttrsThree.f k l0 l1 l2 = some true := by
  have s0 : Small l0 := ⟨h0.2.1, h0.2.2⟩
  have s1 : Small l1 := ⟨h1.2.1, h1.2.2⟩
  have s2 : Small l2 := ⟨h2.2.1, h2.2.2⟩
  apply Ev.rounds (g := fun k => blotterlaw02_AttrsThree.f k l0 l1 l2)
  unfold blotterlaw02_AttrsThree.f
  refine Ev.bind awake_ev (Ev.bind (compose_ev l0 l1 s0 s1) (Ev.bind (compose_ev l1 l2 s1 s2) ?_))
  simp only [if_true]
  have out : ∀ (x y : List S36), Ev (fun k => blotterlaw02_AttrsThree.j0 k l0 l2 true x y true) true := fun x y =>
    Ev.step (f := fun _ => some true) (fun k => by simp only [blotterlaw02_AttrsThree.j0]; rfl) (Ev.now _)
  by_cases e1 : (composeS l0 l1).2 = 0
  · simp only [e1, if_true]
    by_cases e2 : (composeS l1 l2).2 = 0
    · have hx : composeS l0 l1 = ((composeS l0 l1).1, 0) := by rw [← e1]
      have hy : composeS l1 l2 = ((composeS l1 l2).1, 0) := by rw [← e2]
      obtain ⟨ha, hb, ex, hx8⟩ := compose_ok hx
      obtain ⟨_, hc, ey, hy8⟩ := compose_ok hy
      rw [ex] at hx8
      rw [ey] at hy8
      have hl := three_law ha hb hc hx8 hy8
      simp only [e2, ex, ey, bne_self_eq_false]
      have c1 := ha.merge hb hx8
      have c2 := hb.merge hc hy8
      refine Ev.step (f := fun k => (attrs_Compose.f k (mergeS (1, false) l0 l1) l2).bind fun b => (attrs_Compose.f k l0 (mergeS (1, false) l1 l2)).bind fun d => if b.2 = d.2 then (attrs_Same.f k b.1 d.1).bind fun t => some t else some false) (fun k => by simp only [blotterlaw02_AttrsThree.j0]; simp) ?_
      refine Ev.bind (compose_ev _ _ c1.small s2) (Ev.bind (compose_ev _ _ s0 c2.small) ?_)
      rw [hl]
      simp only [if_true]
      refine Ev.bind (f := fun _ t => some t) (same_ev _ _ (by have := compose_len l0 (mergeS (1, false) l1 l2); omega)) (by simpa using Ev.now true)
    · simp only [show ((composeS l1 l2).2 != 0) = true from by simpa using e2]
      exact out _ _
  · simp only [e1, if_false]
    exact out _ _
end Go.Proofs.Ytajfplgkenpmcaa.Pure
