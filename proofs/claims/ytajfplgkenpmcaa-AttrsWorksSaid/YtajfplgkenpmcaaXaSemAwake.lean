/- The document's examples of the layer attrs come out right. -/
import Derived.Test.YtajfplgkenpmcaaXaSemA
import Derived.Test.YtajfplgkenpmcaaXaSp6
namespace Go.Proofs.Ytajfplgkenpmcaa.Sem
open Go.RowKit Go.Proofs.YtajfplgkenpmcaaW.PrintWords Go.Proofs.YtajfplgkenpmcaaW.PrintLast Go.Proofs.Ytajfplgkenpmcaa.Sp
set_option maxRecDepth 100000 in
theorem awake_now : blotterlaw02_awake.f 100 = some true := by kernel_rfl
theorem awake_ev : Ev (fun k => blotterlaw02_awake.f k) true := Ev.of (fun k => blotterlaw02_awake.mono k) awake_now
end Go.Proofs.Ytajfplgkenpmcaa.Sem
