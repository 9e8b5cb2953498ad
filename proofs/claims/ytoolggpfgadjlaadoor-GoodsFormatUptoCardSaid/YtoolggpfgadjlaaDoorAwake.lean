/- awake's fixed description: the kernel's run. Conditions: none. -/
import Derived.Test.YtoolggpfgadjlaaDoorZcustomslaw08awake
import Derived.KernelRfl
namespace Go.Proofs.YtoolggpfgadjlaaDoor.Pure
open Go.RowKit Go.Proofs.YtoolggpfgadjlaaDoorW.PrintWords
set_option maxRecDepth 100000 in
theorem awake_run : Z.customslaw08_awake.f 80 = some true := by kernel_rfl
theorem awake_ev : Ev (fun k => Z.customslaw08_awake.f k) true := Ev.of (fun k => Z.customslaw08_awake.mono k) awake_run
end Go.Proofs.YtoolggpfgadjlaaDoor.Pure
