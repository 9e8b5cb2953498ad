/- The plain law of customslaw38.ChannelSafe. Conditions: those each theorem states. -/
import Derived.Test.YtfljnggpnndmkaaZcustomslaw38ChannelSafe
import Derived.Test.YtfljnggpnndmkaaOpn
import Derived.Test.YtfljnggpnndmkaaChPlay
namespace Go.Proofs.Ytfljnggpnndmkaa.Pure
open Go.RowKit Go.Proofs.YtfljnggpnndmkaaW.PrintWords Go.Proofs.YtfljnggpnndmkaaW.PrintLast Go.Proofs.YtfljnggpnndmkaaW.PrintMore Go.Proofs.Ytfljnggpnndmkaa.Opening

set_option linter.unusedVariables false
set_option linter.unusedSimpArgs false
theorem ChannelSafe (l0 : (List Int)) (w0 : (l0.length * 8 ≤ 140737488351232 ∧ ∀ z0 ∈ l0, (Lit.int .i64 z0).wf = true)) : ∃ k, Z.customslaw38_ChannelSafe.f k l0 = some true := by
  obtain ⟨a, s, r, W, B, e, _⟩ := play_good l0
  refine Ev.rounds (Ev.congr (fun k => by rw [Z.customslaw38_ChannelSafe.f]) ?_)
  refine Ev.bind e ?_
  exact ev_pos rfl (Ev.bind awake38 (Ev.now _))
end Go.Proofs.Ytfljnggpnndmkaa.Pure
