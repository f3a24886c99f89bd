/- The pure statement of AttrsNothing: no change changes nothing. -/
import Derived.Test.YtajfplgkenpmcaaSemD
import Derived.Test.YtajfplgkenpmcaaSemAwake
import Derived.Test.YtajfplgkenpmcaaOpenAttr
import Derived.Test.YtajfplgkenpmcaaSp16
namespace Go.Proofs.Ytajfplgkenpmcaa.Pure
open Go.RowKit Go.Proofs.YtajfplgkenpmcaaW.PrintWords Go.Proofs.Ytajfplgkenpmcaa.Sp Go.Proofs.Ytajfplgkenpmcaa.Open Go.Proofs.Ytajfplgkenpmcaa.Sem
theorem AttrsNothing (l0 l1 : List S36) (a2 : Bool) (h0 : GoodAttrs l0) (h1 : GoodAttrs l1) : ∃ k, blotterlaw02_AttrsNothing.f k l0 l1 a2 = some true := by
  have s0 : Small l0 := ⟨h0.2.1, h0.2.2⟩
  have s1 : Small l1 := ⟨h1.2.1, h1.2.2⟩
  have rest : Ev (fun k => blotterlaw02_AttrsNothing.j0 k l1 a2) true := by
    refine Ev.step (f := fun k => (attrs_Change.f k l1).bind fun t => if t = 0 then (attrs_Compose.f k ([] : List S36) l1).bind fun x => (attrs_Compose.f k l1 ([] : List S36)).bind fun y => (attrs_Follow.f k ([] : List S36) l1 a2).bind fun z => (attrs_Follow.f k l1 ([] : List S36) a2).bind fun w =>
      if x.2 = 0 then if y.2 = 0 then if z.2 = 0 then if w.2 = 0 then (attrs_Same.f k x.1 l1).bind fun t1 => if t1 = true then (attrs_Same.f k y.1 l1).bind fun t2 => if t2 = true then (attrs_Same.f k z.1 l1).bind fun t3 => if t3 = true then some ((w.1.length : Int) == 0) else some false else some false else some false else some false else some false else some false else some false else some true) (fun k => by simp only [blotterlaw02_AttrsNothing.j0]) ?_
    refine Ev.bind (change_ev l1 s1) ?_
    by_cases hc : changeOk l1 = true
    · have c := (change_iff l1).1 hc
      simp only [hc, if_true]
      refine Ev.bind (compose_ev [] l1 Ch.nil.small s1) (Ev.bind (compose_ev l1 [] s1 Ch.nil.small) (Ev.bind (follow_ev [] l1 a2 Ch.nil.small s1) (Ev.bind (follow_ev l1 [] a2 s1 Ch.nil.small) ?_)))
      rw [compose_eq Ch.nil c, compose_eq c Ch.nil, follow_eq a2 Ch.nil c, follow_eq a2 c Ch.nil,
        merge_nil_left (1, false) (fun x => by rw [cC]; cases x <;> rfl) c.2.2, merge_nil_right (1, false) (fun x => by rw [cC]) c.2.2, merge_nil_left (2, a2) (fun x => by rw [cF]; cases x <;> rfl) c.2.2, merge_none (2, a2) (fun x => by rw [cF]) c.2.2, few_fits c.1]
      simp only [if_true]
      refine Ev.bind (same_ev l1 l1 s1.1) ?_
      simp only [decide_true, if_true]
      refine Ev.bind (same_ev l1 l1 s1.1) ?_
      simp only [decide_true, if_true]
      refine Ev.bind (same_ev l1 l1 s1.1) ?_
      simp only [decide_true, if_true]
      exact Ev.now true
    · have hc2 : changeOk l1 = false := by simpa using hc
      simp only [hc2]
      exact Ev.now true
  apply Ev.rounds (g := fun k => blotterlaw02_AttrsNothing.f k l0 l1 a2)
  unfold blotterlaw02_AttrsNothing.f
  refine Ev.bind awake_ev ?_
  simp only [if_true]
  refine Ev.bind (right_ev l0 s0) ?_
  by_cases hr : rightOk l0 = true
  · have r := (right_iff l0).1 hr
    simp only [hr, if_true]
    refine Ev.bind (apply_ev l0 [] s0 Ch.nil.small) (Ev.bind (invert_ev l0 [] s0 Ch.nil.small) ?_)
    rw [apply_eq r Ch.nil, invert_eq r Ch.nil, merge_nil_right (0, false) (fun x => by rw [cA]) r.1.2.2, merge_none (3, false) (fun x => by rw [cI]) r.1.2.2, few_fits r.1.1]
    simp only [if_true, List.length_nil, show ((0 : Nat) : Int) = 0 from rfl]
    refine Ev.bind (same_ev l0 l0 s0.1) ?_
    simp only [decide_true, if_true]
    exact rest
  · have hr2 : rightOk l0 = false := by simpa using hr
    simp only [hr2]
    exact rest
end Go.Proofs.Ytajfplgkenpmcaa.Pure
