/- The document's examples of chapter 8, computed. -/
import Derived.Test.YtinbpjodheceoaaDoorXgSp21
import Derived.KernelRfl
namespace Go.Proofs.YtinbpjodheceoaaDoor.Sem
open Go.RowKit Go.Proofs.YtinbpjodheceoaaDoorW.PrintWords Go.Proofs.YtinbpjodheceoaaDoor.Sp
theorem awake8_now : blotterlaw08_awake.f 100 = some true := by kernel_rfl
theorem awake8_ev : Ev (fun k => blotterlaw08_awake.f k) true := Ev.of (fun k => blotterlaw08_awake.mono k) awake8_now
end Go.Proofs.YtinbpjodheceoaaDoor.Sem
