/- The plain law of customslaw38.ChannelFlushRaw. Conditions: those each theorem states. -/
import Derived.Test.YtfljnggpnndmkaaZcustomslaw38ChannelFlushRaw
import Derived.Test.YtfljnggpnndmkaaOpn
import Derived.Test.YtfljnggpnndmkaaRefCh
import Derived.Test.YtfljnggpnndmkaaChAwake
namespace Go.Proofs.Ytfljnggpnndmkaa.Pure
open Go.RowKit Go.Proofs.YtfljnggpnndmkaaW.PrintWords Go.Proofs.YtfljnggpnndmkaaW.PrintLast Go.Proofs.YtfljnggpnndmkaaW.PrintMore Go.Proofs.Ytfljnggpnndmkaa.Opening

set_option linter.unusedVariables false
set_option linter.unusedSimpArgs false
theorem ChannelFlushRaw (a0_0 : Int) (l0_1 : (List Int)) (l0_2 : (List Int)) (a1 : Int) (a2 : Int) (w0_0 : (Lit.int .i64 a0_0).wf = true) (w0_1 : (l0_1.length * 8 ≤ 140737488351232 ∧ ∀ z0 ∈ l0_1, (Lit.int .i64 z0).wf = true)) (w0_2 : (l0_2.length * 8 ≤ 140737488351232 ∧ ∀ z0 ∈ l0_2, (Lit.int .i64 z0).wf = true)) (w1 : (Lit.int .i64 a1).wf = true) (w2 : (Lit.int .i64 a2).wf = true) : ∃ k, Z.customslaw38_ChannelFlushRaw.f k a0_0 l0_1 l0_2 a1 a2 = some true := by
  have n0 := i64_of w0_0
  have none_ : ∀ b : Bool, b = true → Ev (fun k => Z.customslaw38_ChannelFlushRaw.j0 k a1 a2 b a0_0 l0_1 l0_2) true := by
    rintro b rfl
    refine Ev.step (fun k => by rw [Z.customslaw38_ChannelFlushRaw.j0]) ?_
    exact ev_pos rfl (Ev.bind awake38 (Ev.now _))
  have yes_ : ∀ b : Bool, b = false → (l0_1.length : Int) ≤ 100 → (l0_2.length : Int) ≤ 100 → Ev (fun k => Z.customslaw38_ChannelFlushRaw.j0 k a1 a2 b a0_0 l0_1 l0_2) true := by
    rintro b rfl h1 h2
    refine Ev.step (fun k => by rw [Z.customslaw38_ChannelFlushRaw.j0]) ?_
    refine ev_neg (by decide) (Ev.bind (flush_ev a0_0 l0_1 l0_2 a1 a2 n0 (by omega) (by omega)) (Ev.bind (ref_flush_ev a0_0 l0_1 l0_2 a1 a2 n0 (by omega) (by omega)) ?_))
    obtain ⟨e1, e2⟩ := fsh_len a0_0 l0_1 l0_2 a1 a2
    refine ev_pos rfl (ev_pos rfl (Ev.bind (sameLine_ev _ _ _ ?_ ?_) (ev_pos rfl (Ev.bind awake38 (Ev.now _)))))
    · rw [e1]; simp
    · rw [e2]; simp
  refine Ev.rounds (Ev.congr (fun k => by rw [Z.customslaw38_ChannelFlushRaw.f]) ?_)
  by_cases h1 : (l0_1.length : Int) > 100
  · exact ev_pos h1 (none_ _ rfl)
  refine ev_neg h1 ?_
  by_cases h2 : (l0_2.length : Int) > 100
  · exact ev_pos h2 (none_ _ rfl)
  refine ev_neg h2 ?_
  by_cases h3 : a1 > 2000
  · refine ev_pos h3 ?_
    by_cases h4 : a1 ≤ 1000000
    · exact none_ _ (decide_eq_true h4)
    · exact yes_ _ (decide_eq_false h4) (by omega) (by omega)
  · exact ev_neg h3 (yes_ _ rfl (by omega) (by omega))
end Go.Proofs.Ytfljnggpnndmkaa.Pure
