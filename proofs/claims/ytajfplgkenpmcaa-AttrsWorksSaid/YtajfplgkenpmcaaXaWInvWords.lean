/- Words of the kit's print that this claim uses (laid by its tool, cut down by this session's prune.py). -/
import Derived.Test.YtajfplgkenpmcaaXaWInv
import Derived.Test.YtajfplgkenpmcaaXaWFootNe
namespace Go.Proofs.YtajfplgkenpmcaaW.PrintWords
open Go.RowKit
end Go.Proofs.YtajfplgkenpmcaaW.PrintWords
namespace Go.Proofs.YtajfplgkenpmcaaW.PrintLast
section
variable {ops : Array Oper} {a : Act} {o og : Oper} {g : Nat} {t : Tmp} {u : Bool}
end
end Go.Proofs.YtajfplgkenpmcaaW.PrintLast
