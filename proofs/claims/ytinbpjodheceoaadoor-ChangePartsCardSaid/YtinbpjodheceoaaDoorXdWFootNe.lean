/- Words of the kit's print that this claim uses (laid by its tool, cut down by this session's prune.py). -/
import Derived.Test.YtinbpjodheceoaaDoorXdWN
namespace Go.Proofs.YtinbpjodheceoaaDoorW.PrintWords
open Go.RowKit
namespace Kd
section
variable {α : Type} {d : Kd α} {W : World} {g n : Nat} {S ok : Nat → Prop} {A : Option Addr} {ad : Addr} {xs : List α}
end
end Kd
end Go.Proofs.YtinbpjodheceoaaDoorW.PrintWords
