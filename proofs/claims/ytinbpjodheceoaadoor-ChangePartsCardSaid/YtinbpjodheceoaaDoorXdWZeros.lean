/- Words of the kit's print that this claim uses (laid by its tool, cut down by this session's prune.py). -/
import Derived.Test.YtinbpjodheceoaaDoorXdWApart
import Derived.Test.YtinbpjodheceoaaDoorXdWArr
namespace Go.Proofs.YtinbpjodheceoaaDoorW.PrintWords
open Go.RowKit
section
variable {P : Program}
end
namespace Kd
section
variable {P : Program} {ops : Array Oper} {rest : List Oper} {o : Oper} {a : Act} {Q : Exit → Act → World → Prop} {Kc : Act → World → Prop} {α : Type}
end
section
variable {α : Type} {d : Kd α} {e : Nat} {w : World} {base : Nat} {ok : Nat → Prop} {v : Value} {xs : List α}
end
section
variable {P : Program} {ops : Array Oper} {rest : List Oper} {o : Oper} {a : Act} {Q : Exit → Act → World → Prop} {Kc : Act → World → Prop} {α : Type}
end
end Kd
end Go.Proofs.YtinbpjodheceoaaDoorW.PrintWords
