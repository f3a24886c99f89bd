/- Written by this session's programs (sprint.py, prune.py). -/
import Derived.Test.YtinbpjodheceoaaDoorXgSp0
import Derived.Test.YtinbpjodheceoaaDoorXgSp27
import Derived.Test.YtinbpjodheceoaaDoorXgSp34
namespace Go.Proofs.YtinbpjodheceoaaDoor.Sp
open Go.RowKit Go.Proofs.YtinbpjodheceoaaDoorW.PrintWords Go.Proofs.YtinbpjodheceoaaDoorW.PrintLast Go.Proofs.YtinbpjodheceoaaDoorW.PrintMore
attribute [local go_sem] max2_int min2_int max_two min_two max_three min_three max_four min_four   -- for this text's walks alone
set_option linter.unusedVariables false
set_option linter.unusedSimpArgs false
attribute [local go_sem] own_leq own_gtr own_geq   -- for this text's walks alone
def blotterref03_Is.f (k : Nat) (a0_0 : Int) (l0_1 : List (S43)) : Option (Bool) := (blotterref03_Normal.f k a0_0 l0_1).bind fun bt539 => (if bt539.2.2 = 0 then ((blotterref03_Same.f k a0_0 l0_1 bt539.1 bt539.2.1).bind fun t545 => (some t545)) else (some false))
theorem blotterref03_Is.mono : ∀ a0 a1 k, LeO (blotterref03_Is.f k a0 a1) (blotterref03_Is.f (k + 1) a0 a1) := by
 intro a0 a1 k
 unfold blotterref03_Is.f
 have m0 := @blotterref03_Normal.mono; have m1 := @blotterref03_Same.mono; exact lo
end Go.Proofs.YtinbpjodheceoaaDoor.Sp
