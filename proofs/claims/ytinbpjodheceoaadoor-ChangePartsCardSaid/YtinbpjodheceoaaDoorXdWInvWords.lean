/- Words of the kit's print that this claim uses (laid by its tool, cut down by this session's prune.py). -/
import Derived.Test.YtinbpjodheceoaaDoorXdWInv
import Derived.Test.YtinbpjodheceoaaDoorXdWFootNe
namespace Go.Proofs.YtinbpjodheceoaaDoorW.PrintWords
open Go.RowKit
end Go.Proofs.YtinbpjodheceoaaDoorW.PrintWords
namespace Go.Proofs.YtinbpjodheceoaaDoorW.PrintLast
section
variable {ops : Array Oper} {a : Act} {o og : Oper} {g : Nat} {t : Tmp} {u : Bool}
end
end Go.Proofs.YtinbpjodheceoaaDoorW.PrintLast
