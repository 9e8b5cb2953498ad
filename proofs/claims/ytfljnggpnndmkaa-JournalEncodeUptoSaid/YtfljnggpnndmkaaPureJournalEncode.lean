/- The plain law of customslaw34.JournalEncode. Conditions: those each theorem states. -/
import Derived.Test.YtfljnggpnndmkaaZcustomslaw34JournalEncode
import Derived.Test.YtfljnggpnndmkaaOpn
import Derived.Test.YtfljnggpnndmkaaRefScan
namespace Go.Proofs.Ytfljnggpnndmkaa.Pure
open Go.RowKit Go.Proofs.YtfljnggpnndmkaaW.PrintWords Go.Proofs.YtfljnggpnndmkaaW.PrintLast Go.Proofs.YtfljnggpnndmkaaW.PrintMore Go.Proofs.Ytfljnggpnndmkaa.Opening

set_option linter.unusedVariables false
set_option linter.unusedSimpArgs false
theorem same_loop (l : List Z.S57) (hl : l.length ≤ 4000000000000) : ∀ (d i : Nat), i + d = l.length → Ev (fun k => Z.customslaw34_JournalEncode.l0 k l l (i : Int)) true := by
  intro d
  induction d with
  | zero =>
    intro i hi
    refine Ev.step (fun k => by rw [Z.customslaw34_JournalEncode.l0]) ?_
    exact ev_neg (by omega) (Ev.bind awake34 (Ev.now _))
  | succ d ih =>
    intro i hi
    refine Ev.step (fun k => by rw [Z.customslaw34_JournalEncode.l0]) ?_
    refine ev_pos (by omega) (ev_pos (by omega) (ev_pos (by omega) (ev_pos rfl ?_)))
    rw [sameBytes_self, wrap64_id ((i : Int) + 1) (by omega)]
    exact ev_some (ev_pos rfl (ih (i + 1) (by omega)))
theorem JournalEncode (a0_0 : Int) (l0_1 : (List Int)) (l1 : (List Int)) (hb : 1 + bkL (fun z => 1) l0_1 + bkL (fun z => 1) l1 ≤ 1048576) (w0_0 : (Lit.int .i64 a0_0).wf = true) (w0_1 : (l0_1.length * 1 ≤ 140737488351232 ∧ ∀ z0 ∈ l0_1, (Lit.int .u8 z0).wf = true)) (w1 : (l1.length * 1 ≤ 140737488351232 ∧ ∀ z0 ∈ l1, (Lit.int .u8 z0).wf = true)) : ∃ k, Z.customslaw34_JournalEncode.f k a0_0 l0_1 l1 = some true := by
  simp only [bkL_one] at hb
  have b0 := isBytes_of w0_1.2
  have b1 := isBytes_of w1.2
  refine Ev.rounds (Ev.congr (fun k => by rw [Z.customslaw34_JournalEncode.f]) ?_)
  refine Ev.bind (encode_ev a0_0 l0_1 b0) (Ev.bind (ref_encode_ev a0_0 l0_1 b0) (Ev.bind (scan_ev l1 b1 (by omega)) (Ev.bind (ref_scan_ev l1 b1 (by omega)) ?_)))
  refine ev_pos rfl ?_
  rw [sameBytes_self]
  refine ev_some (ev_pos rfl (ev_pos rfl ?_))
  refine Ev.step (fun k => by rw [Z.customslaw34_JournalEncode.j0]) ?_
  exact ev_neg (by simp) (same_loop (scanF l1.length l1 0).1 (by have := scanF_length l1 l1.length 0; omega) (scanF l1.length l1 0).1.length 0 (by omega))
end Go.Proofs.Ytfljnggpnndmkaa.Pure
