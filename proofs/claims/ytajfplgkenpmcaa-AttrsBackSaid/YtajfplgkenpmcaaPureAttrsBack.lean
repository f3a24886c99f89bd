/- The pure statement of AttrsBack: two changes are one; undone is as before. -/
import Derived.Test.YtajfplgkenpmcaaSemD
import Derived.Test.YtajfplgkenpmcaaSemAwake
import Derived.Test.YtajfplgkenpmcaaOpenAttr
import Derived.Test.YtajfplgkenpmcaaSp15
namespace Go.Proofs.Ytajfplgkenpmcaa.Pure
open Go.RowKit Go.Proofs.YtajfplgkenpmcaaW.PrintWords Go.Proofs.Ytajfplgkenpmcaa.Sp Go.Proofs.Ytajfplgkenpmcaa.Open Go.Proofs.Ytajfplgkenpmcaa.Sem
theorem AttrsBack (l0 l1 l2 : List S36) (h0 : GoodAttrs l0) (h1 : GoodAttrs l1) (h2 : GoodAttrs l2) : ∃ k, blotterlaw02_AttrsBack.f k l0 l1 l2 = some true := by
  have s0 : Small l0 := ⟨h0.2.1, h0.2.2⟩
  have s1 : Small l1 := ⟨h1.2.1, h1.2.2⟩
  have s2 : Small l2 := ⟨h2.2.1, h2.2.2⟩
  apply Ev.rounds (g := fun k => blotterlaw02_AttrsBack.f k l0 l1 l2)
  unfold blotterlaw02_AttrsBack.f
  refine Ev.bind awake_ev (Ev.bind (apply_ev l0 l1 s0 s1) ?_)
  simp only [if_true]
  by_cases e1 : (applyS l0 l1).2 = 0
  · have hx : applyS l0 l1 = ((applyS l0 l1).1, 0) := by rw [← e1]
    obtain ⟨hr, ha, ex, hx8⟩ := apply_ok hx
    rw [ex] at hx8
    have c1 := apply_ri hr ha hx8
    have u1 := invert_ch hr ha
    have hl := back_law hr ha hx8
    simp only [e1, ex, bne_self_eq_false]
    refine Ev.step (f := fun k => (attrs_Invert.f k l0 l1).bind fun u => (attrs_Apply.f k (mergeS (0, false) l0 l1) u.1).bind fun z => (attrs_Same.f k z.1 l0).bind fun t => if u.2 = 0 then if z.2 = 0 then blotterlaw02_AttrsBack.j1 k l0 l1 l2 (mergeS (0, false) l0 l1) (!t) else blotterlaw02_AttrsBack.j1 k l0 l1 l2 (mergeS (0, false) l0 l1) true else blotterlaw02_AttrsBack.j1 k l0 l1 l2 (mergeS (0, false) l0 l1) true) (fun k => by simp only [blotterlaw02_AttrsBack.j0]; simp) ?_
    refine Ev.bind (invert_ev l0 l1 s0 s1) ?_
    rw [invert_eq hr ha]
    refine Ev.bind (apply_ev _ _ c1.1.small u1.small) ?_
    rw [hl]
    refine Ev.bind (same_ev l0 l0 s0.1) ?_
    simp only [if_true, decide_true, Bool.not_true]
    refine Ev.step (f := fun k => (attrs_Apply.f k (mergeS (0, false) l0 l1) l2).bind fun y => (attrs_Compose.f k l1 l2).bind fun c => if y.2 = 0 then blotterlaw02_AttrsBack.j2 k l0 y.1 c.1 (c.2 != 0) else blotterlaw02_AttrsBack.j2 k l0 y.1 c.1 true) (fun k => by simp only [blotterlaw02_AttrsBack.j1]; simp) ?_
    refine Ev.bind (apply_ev _ _ c1.1.small s2) (Ev.bind (compose_ev l1 l2 s1 s2) ?_)
    have out : ∀ (x y : List S36), Ev (fun k => blotterlaw02_AttrsBack.j2 k l0 x y true) true := fun x y =>
      Ev.step (f := fun _ => some true) (fun k => by simp only [blotterlaw02_AttrsBack.j2]; rfl) (Ev.now _)
    by_cases e2 : (applyS (mergeS (0, false) l0 l1) l2).2 = 0
    · simp only [e2, if_true]
      by_cases e3 : (composeS l1 l2).2 = 0
      · have hy : applyS (mergeS (0, false) l0 l1) l2 = ((applyS (mergeS (0, false) l0 l1) l2).1, 0) := by rw [← e2]
        have hz : composeS l1 l2 = ((composeS l1 l2).1, 0) := by rw [← e3]
        obtain ⟨_, hb, ey, hy8⟩ := apply_ok hy
        obtain ⟨_, _, ez, hz8⟩ := compose_ok hz
        rw [ey] at hy8
        rw [ez] at hz8
        have h2l := two_law hr ha hb hx8 hy8 hz8
        have cc := ha.merge hb hz8
        simp only [e3, ey, ez, bne_self_eq_false]
        refine Ev.step (f := fun k => (attrs_Apply.f k l0 (mergeS (1, false) l1 l2)).bind fun z => if z.2 = 0 then (attrs_Same.f k (mergeS (0, false) (mergeS (0, false) l0 l1) l2) z.1).bind fun t => some t else some false) (fun k => by simp only [blotterlaw02_AttrsBack.j2]; simp) ?_
        refine Ev.bind (apply_ev _ _ s0 cc.small) ?_
        rw [h2l]
        simp only [if_true]
        refine Ev.bind (f := fun _ t => some t) (same_ev _ _ (by omega)) (by simpa using Ev.now true)
      · simp only [show ((composeS l1 l2).2 != 0) = true from by simpa using e3]
        exact out _ _
    · simp only [e2, if_false]
      exact out _ _
  · have e := apply_err e1
    rw [e]
    simp only [show ((applyS l0 l1).2 != 0) = true from by simpa using e1]
    exact Ev.step (f := fun _ => some true) (fun k => by simp only [blotterlaw02_AttrsBack.j0]; simp) (Ev.now _)
end Go.Proofs.Ytajfplgkenpmcaa.Pure
