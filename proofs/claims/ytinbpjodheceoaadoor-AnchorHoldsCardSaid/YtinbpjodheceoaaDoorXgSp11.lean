/- Written by this session's programs (sprint.py, prune.py). -/
import Derived.Test.YtinbpjodheceoaaDoorXgSp0
import Derived.Test.YtinbpjodheceoaaDoorXgSp3
import Derived.Test.YtinbpjodheceoaaDoorXgSp9
import Derived.Test.YtinbpjodheceoaaDoorXgSp10
namespace Go.Proofs.YtinbpjodheceoaaDoor.Sp
open Go.RowKit Go.Proofs.YtinbpjodheceoaaDoorW.PrintWords Go.Proofs.YtinbpjodheceoaaDoorW.PrintLast Go.Proofs.YtinbpjodheceoaaDoorW.PrintMore
attribute [local go_sem] max2_int min2_int max_two min_two max_three min_three max_four min_four   -- for this text's walks alone
set_option linter.unusedVariables false
set_option linter.unusedSimpArgs false
attribute [local go_sem] own_leq own_gtr own_geq   -- for this text's walks alone
def change_Same.f (k : Nat) (a0_0 : Int) (l0_1 : List (S43)) (a1_0 : Int) (l1_1 : List (S43)) : Option (Bool) := if a0_0 = a1_0 then ((slices_EqualFunc__change_Same_1.f k l0_1 l1_1).bind fun t147 => (some t147)) else (some false)
theorem change_Same.mono : ∀ a0 a1 a2 a3 k, LeO (change_Same.f k a0 a1 a2 a3) (change_Same.f (k + 1) a0 a1 a2 a3) := by
 intro a0 a1 a2 a3 k
 unfold change_Same.f
 have m0 := @slices_EqualFunc__change_Same_1.mono; exact lo
def change_Is.f (k : Nat) (a0_0 : Int) (l0_1 : List (S43)) : Option (Bool) := (change_Normal.f k a0_0 l0_1).bind fun bt149 => (if bt149.2.2 = 0 then ((change_Same.f k a0_0 l0_1 bt149.1 bt149.2.1).bind fun t155 => (some t155)) else (some false))
theorem change_Is.mono : ∀ a0 a1 k, LeO (change_Is.f k a0 a1) (change_Is.f (k + 1) a0 a1) := by
 intro a0 a1 k
 unfold change_Is.f
 have m0 := @change_Normal.mono; have m1 := @change_Same.mono; exact lo
end Go.Proofs.YtinbpjodheceoaaDoor.Sp
