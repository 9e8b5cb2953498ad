/- The channel's fixed example. Conditions: those each theorem states. -/
import Derived.Test.YtfljnggpnndmkaaBase
import Derived.Test.YtfljnggpnndmkaaZcustomslaw38awake
namespace Go.Proofs.Ytfljnggpnndmkaa.Pure
open Go.RowKit Go.Proofs.YtfljnggpnndmkaaW.PrintWords Go.Proofs.YtfljnggpnndmkaaW.PrintLast Go.Proofs.YtfljnggpnndmkaaW.PrintMore Go.Proofs.Ytfljnggpnndmkaa.Opening
set_option linter.unusedVariables false
set_option linter.unusedSimpArgs false
theorem awake38 : Ev (fun k => Z.customslaw38_awake.f k) true := Ev.of (fun k => Z.customslaw38_awake.mono k) (k := 40) (by kernel_rfl)
end Go.Proofs.Ytfljnggpnndmkaa.Pure
