/- The pure statement of AttrsRights: which attributes and changes may be, and which are the same, as the document says. -/
import Derived.Test.YtajfplgkenpmcaaSemR
import Derived.Test.YtajfplgkenpmcaaSemAwake
import Derived.Test.YtajfplgkenpmcaaOpenAttr
import Derived.Test.YtajfplgkenpmcaaSp13
namespace Go.Proofs.Ytajfplgkenpmcaa.Pure
open Go.RowKit Go.Proofs.YtajfplgkenpmcaaW.PrintWords Go.Proofs.Ytajfplgkenpmcaa.Sp Go.Proofs.Ytajfplgkenpmcaa.Open Go.Proofs.Ytajfplgkenpmcaa.Sem
theorem AttrsRights (l0 l1 : List S36) (h0 : GoodAttrs l0) (_h1 : GoodAttrs l1) : ∃ k, blotterlaw02_AttrsRights.f k l0 l1 = some true := by
  have s0 : Small l0 := ⟨h0.2.1, h0.2.2⟩
  apply Ev.rounds (g := fun k => blotterlaw02_AttrsRights.f k l0 l1)
  unfold blotterlaw02_AttrsRights.f
  refine Ev.bind awake_ev (Ev.bind (same_ev l0 l1 s0.1) (Ev.bind (same_ev l0 l0 s0.1) ?_))
  simp only [if_true]
  refine Ev.bind (right_ev l0 s0) (Ev.bind (refright_ev l0 s0) ?_)
  simp only [if_true]
  refine Ev.bind (change_ev l0 s0) (Ev.bind (refchange_ev l0 s0) ?_)
  simp only [if_true]
  refine Ev.bind (refsame_ev l0 l1 s0.1) ?_
  simp only [beq_self_eq_true, if_true, decide_true]
  exact Ev.now true
end Go.Proofs.Ytajfplgkenpmcaa.Pure
