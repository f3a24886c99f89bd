/- Words of the kit's print that this claim uses (laid by its tool, cut down by this session's prune.py). -/
import Derived.Test.YtinbpjodheceoaaDoorXdWTab
namespace Go.Proofs.YtinbpjodheceoaaDoorW.PrintLast
section
variable {P : Program} {ops : Array Oper} {Q : Exit → Act → World → Prop} {md : Region.Mode} {T : Bool × List (List Nat × List Nat)} {B : List Nat} {O : List Nat} {b : Nat → Bool} {i j n : Nat}
end
end Go.Proofs.YtinbpjodheceoaaDoorW.PrintLast
