/- The plain law of customslaw33.DiskWrite. Conditions: those each theorem states. -/
import Derived.Test.YtfljnggpnndmkaaZcustomslaw33DiskWrite
import Derived.Test.YtfljnggpnndmkaaOpn
import Derived.Test.YtfljnggpnndmkaaDiskLaws
namespace Go.Proofs.Ytfljnggpnndmkaa.Pure
open Go.RowKit Go.Proofs.YtfljnggpnndmkaaW.PrintWords Go.Proofs.YtfljnggpnndmkaaW.PrintLast Go.Proofs.YtfljnggpnndmkaaW.PrintMore Go.Proofs.Ytfljnggpnndmkaa.Opening

theorem DiskWrite (l0_0 : (List Int)) (l0_1 : (List Int)) (l1 : (List Int)) (hb : bkL (fun z => 1) l0_0 + bkL (fun z => 1) l0_1 + bkL (fun z => 1) l1 ≤ 1048576) (w0_0 : (l0_0.length * 1 ≤ 140737488351232 ∧ ∀ z0 ∈ l0_0, (Lit.int .u8 z0).wf = true)) (w0_1 : (l0_1.length * 1 ≤ 140737488351232 ∧ ∀ z0 ∈ l0_1, (Lit.int .u8 z0).wf = true)) (w1 : (l1.length * 1 ≤ 140737488351232 ∧ ∀ z0 ∈ l1, (Lit.int .u8 z0).wf = true)) : Z.customslaw33_DiskWrite.f l0_0 l0_1 l1 = some true := by
  simp only [bkL_one] at hb
  simp only [Z.customslaw33_DiskWrite.f, write_eq l0_0 l0_1 l1 (by omega) (by omega) (by omega), ref_write_eq l0_0 l0_1 l1 (by omega) (by omega) (by omega), Option.bind_some, sameDisk_self,
    sync_eq l0_0 l0_1 (by omega), ref_sync_eq l0_0 l0_1 (by omega), read_eq l0_0 l0_1 (by omega), ref_read_eq l0_0 l0_1 (by omega), sameBytes_self, awake33, if_true]
end Go.Proofs.Ytfljnggpnndmkaa.Pure
