/- Written by this session's programs (sprint.py, prune.py). -/
import Derived.Test.YtinbpjodheceoaaDoorXgSp0
namespace Go.Proofs.YtinbpjodheceoaaDoor.Sp
open Go.RowKit Go.Proofs.YtinbpjodheceoaaDoorW.PrintWords Go.Proofs.YtinbpjodheceoaaDoorW.PrintLast Go.Proofs.YtinbpjodheceoaaDoorW.PrintMore
attribute [local go_sem] max2_int min2_int max_two min_two max_three min_three max_four min_four   -- for this text's walks alone
set_option linter.unusedVariables false
set_option linter.unusedSimpArgs false
attribute [local go_sem] own_leq own_gtr own_geq   -- for this text's walks alone
def change_Nothing.j0 : Nat → Int → Bool → Option (Int × (List (S43)) × Int)
 | 0, _, _ => none
 | k + 1, x0, x9 => if x9 = true then (some (0, ([] : List (S43)), 31)) else (some (x0, ([] : List (S43)), 0))
def change_Nothing.f (k : Nat) (a0 : Int) : Option (Int × (List (S43)) × Int) := if a0 < 0 then (change_Nothing.j0 k a0 true) else (change_Nothing.j0 k a0 (decide (a0 > 20000)))
theorem change_Nothing.mono_l : ∀ k, (∀ y0 y1, LeO (change_Nothing.j0 k y0 y1) (change_Nothing.j0 (k + 1) y0 y1))
 | 0 => fun _ _ r h => by simp [change_Nothing.j0] at h
 | k + 1 => by
  have ih0 := change_Nothing.mono_l k
  intro y0 y1
  unfold change_Nothing.j0
  exact lo
theorem change_Nothing.mono : ∀ a0 k, LeO (change_Nothing.f k a0) (change_Nothing.f (k + 1) a0) := by
 intro a0 k
 have ih0 := change_Nothing.mono_l k
 unfold change_Nothing.f
 exact lo
end Go.Proofs.YtinbpjodheceoaaDoor.Sp
