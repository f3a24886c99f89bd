/- The document's examples of chapter 3, computed. -/
import Derived.Test.YtinbpjodheceoaaDoorXdSp15
import Derived.KernelRfl
namespace Go.Proofs.YtinbpjodheceoaaDoor.Sem
open Go.RowKit Go.Proofs.YtinbpjodheceoaaDoorW.PrintWords Go.Proofs.YtinbpjodheceoaaDoor.Sp
theorem awake_now : blotterlaw03_awake.f 100 = some true := by kernel_rfl
theorem awake_ev : Ev (fun k => blotterlaw03_awake.f k) true := Ev.of (fun k => blotterlaw03_awake.mono k) awake_now
end Go.Proofs.YtinbpjodheceoaaDoor.Sem
