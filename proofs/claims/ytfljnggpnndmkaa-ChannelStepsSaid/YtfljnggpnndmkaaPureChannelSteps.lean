/- The plain law of customslaw38.ChannelSteps. Conditions: those each theorem states. -/
import Derived.Test.YtfljnggpnndmkaaZcustomslaw38ChannelSteps
import Derived.Test.YtfljnggpnndmkaaOpn
import Derived.Test.YtfljnggpnndmkaaRefCh2
import Derived.Test.YtfljnggpnndmkaaChAwake
namespace Go.Proofs.Ytfljnggpnndmkaa.Pure
open Go.RowKit Go.Proofs.YtfljnggpnndmkaaW.PrintWords Go.Proofs.YtfljnggpnndmkaaW.PrintLast Go.Proofs.YtfljnggpnndmkaaW.PrintMore Go.Proofs.Ytfljnggpnndmkaa.Opening

set_option linter.unusedVariables false
set_option linter.unusedSimpArgs false
theorem steps_ev (a : Int) (W B : List Int) (s i r : Int) (ha : -9223372036854775808 ≤ a ∧ a ≤ 9223372036854775807) (hW : W.length ≤ 17592186044300) (hB : B.length ≤ 17592186044300) : Ev (fun k => Z.customslaw38_ChannelSteps.j3 k s i r a W B) true := by
  refine Ev.step (fun k => by rw [Z.customslaw38_ChannelSteps.j3]) ?_
  obtain ⟨t1, t2, t3⟩ := tr_len a W B s
  obtain ⟨d1, d2⟩ := dl_len a W B i r
  obtain ⟨l1, l2⟩ := ls_len a W B i
  obtain ⟨r1, r2⟩ := rp_len a W B i
  obtain ⟨c1, c2⟩ := cf_len a W B i
  obtain ⟨f1, f2⟩ := fg_len a W B i
  refine Ev.bind (transmit_ev a W B s ha (by omega) (by omega)) (Ev.bind (ref_transmit_ev a W B s ha (by omega) (by omega)) (ev_pos rfl (Ev.bind (sameLine_ev _ _ _ (by omega) (by omega)) (ev_pos rfl ?_))))
  refine Ev.bind (deliver_ev a W B i r (by omega) (by omega)) (Ev.bind (ref_deliver_ev a W B i r (by omega) (by omega)) (ev_pos rfl (ev_pos rfl (Ev.bind (sameLine_ev _ _ _ (by omega) (by omega)) (ev_pos rfl ?_)))))
  refine Ev.bind (ev_now (lose_eq a W B i (by omega) (by omega))) (Ev.bind (ev_now (ref_lose_eq a W B i (by omega))) (ev_pos rfl (Ev.bind (sameLine_ev _ _ _ (by omega) (by omega)) (ev_pos rfl ?_))))
  refine Ev.bind (ev_now (repeat_eq a W B i (by omega) (by omega))) (Ev.bind (ref_repeat_ev a W B i) (ev_pos rfl (Ev.bind (sameLine_ev _ _ _ (by omega) (by omega)) (ev_pos rfl ?_))))
  refine Ev.bind (ev_now (confirm_eq a W B i (by omega) (by omega))) (Ev.bind (ev_now (ref_confirm_eq a W B i (by omega))) (ev_pos rfl (Ev.bind (sameLine_ev _ _ _ (by omega) (by omega)) (ev_pos rfl ?_))))
  refine Ev.bind (ev_now (forget_eq a W B i (by omega) (by omega))) (Ev.bind (ev_now (ref_forget_eq a W B i (by omega))) (ev_pos rfl (Ev.bind (sameLine_ev _ _ _ (by omega) (by omega)) (ev_pos rfl ?_))))
  refine Ev.bind (ev_now (idle_eq a W B s)) (Ev.bind (ev_now ((ref_idle_eq a W B s).trans (idle_eq a W B s))) ?_)
  exact ev_pos (by simp) (Ev.bind awake38 (Ev.now _))
def I64 (x : Int) : Prop := -9223372036854775808 ≤ x ∧ x ≤ 9223372036854775807
theorem steps_end (x1 x2 x3 A : Int) (W B : List Int) (h1 : -9223372036854775808 ≤ x1 ∧ x1 ≤ 9223372036854775807) (h2 : -9223372036854775808 ≤ x2 ∧ x2 ≤ 9223372036854775807) (h3 : -9223372036854775808 ≤ x3 ∧ x3 ≤ 9223372036854775807) (hA : 0 ≤ A ∧ A < 5) (hW : W.length ≤ 10) (hB : B.length ≤ 10) :
    Ev (fun k => (Z.customsmade_Within.f x1 12).bind fun t1 => (Z.customsmade_Within.f x2 11).bind fun t2 => (Z.customsmade_Within.f x3 9).bind fun t3 => Z.customslaw38_ChannelSteps.j3 k t1 t2 t3 A W B) true := by
  obtain ⟨r1, e1, _⟩ := within_eq' x1 12 h1 (by omega) (by omega)
  obtain ⟨r2, e2, _⟩ := within_eq' x2 11 h2 (by omega) (by omega)
  obtain ⟨r3, e3, _⟩ := within_eq' x3 9 h3 (by omega) (by omega)
  rw [e1, e2, e3]
  exact ev_some (ev_some (ev_some (steps_ev A W B r1 r2 r3 (by omega) (by omega) (by omega))))
theorem steps_l1 (x1 x2 x3 a0 A : Int) (L1 L2 W : List Int) (h1 : -9223372036854775808 ≤ x1 ∧ x1 ≤ 9223372036854775807) (h2 : -9223372036854775808 ≤ x2 ∧ x2 ≤ 9223372036854775807) (h3 : -9223372036854775808 ≤ x3 ∧ x3 ≤ 9223372036854775807) (hA : 0 ≤ A ∧ A < 5) (hW : W.length ≤ 10)
    (g2 : ∀ x ∈ L2, -9223372036854775808 ≤ x ∧ x ≤ 9223372036854775807) : ∀ (d i : Nat) (acc : List Int), i + d = 10 → acc.length = i → Ev (fun k => Z.customslaw38_ChannelSteps.l1 k x1 x2 x3 (i : Int) a0 L1 L2 A W acc) true := by
  intro d
  induction d with
  | zero =>
    intro i acc hi ha
    refine Ev.step (fun k => by rw [Z.customslaw38_ChannelSteps.l1]) ?_
    have fin := steps_end x1 x2 x3 A W acc h1 h2 h3 hA hW (by omega)
    by_cases c : (i : Int) < (L2.length : Int)
    · exact ev_pos c (ev_neg (by omega) fin)
    · exact ev_neg c fin
  | succ d ih =>
    intro i acc hi ha
    refine Ev.step (fun k => by rw [Z.customslaw38_ChannelSteps.l1]) ?_
    by_cases c : (i : Int) < (L2.length : Int)
    · refine ev_pos c (ev_pos (by omega) (ev_pos (by omega) ?_))
      obtain ⟨r, e, _⟩ := within_eq' (rd L2 i) 9 (g2 _ (rd_mem' L2 i (by omega) c)) (by omega) (by omega)
      rw [e]
      refine ev_some (ev_pos (by omega) ?_)
      rw [wrap64_id ((i : Int) + 1) (by omega)]
      exact ih (i + 1) (acc ++ [r]) (by omega) (by simp [ha])
    · exact ev_neg c (steps_end x1 x2 x3 A W acc h1 h2 h3 hA hW (by omega))
theorem steps_l0 (x1 x2 x3 a0 A : Int) (L1 L2 : List Int) (h1 : -9223372036854775808 ≤ x1 ∧ x1 ≤ 9223372036854775807) (h2 : -9223372036854775808 ≤ x2 ∧ x2 ≤ 9223372036854775807) (h3 : -9223372036854775808 ≤ x3 ∧ x3 ≤ 9223372036854775807) (hA : 0 ≤ A ∧ A < 5)
    (g1 : ∀ x ∈ L1, -9223372036854775808 ≤ x ∧ x ≤ 9223372036854775807) (g2 : ∀ x ∈ L2, -9223372036854775808 ≤ x ∧ x ≤ 9223372036854775807) : ∀ (d i : Nat) (acc : List Int), i + d = 10 → acc.length = i → Ev (fun k => Z.customslaw38_ChannelSteps.l0 k x1 x2 x3 (i : Int) a0 L1 L2 A acc) true := by
  intro d
  have fin : ∀ acc : List Int, acc.length ≤ 10 → Ev (fun k => Z.customslaw38_ChannelSteps.j1 k x1 x2 x3 a0 L1 L2 A acc) true := by
    intro acc ha
    refine Ev.step (fun k => by rw [Z.customslaw38_ChannelSteps.j1]) ?_
    exact steps_l1 x1 x2 x3 a0 A L1 L2 acc h1 h2 h3 hA ha g2 10 0 [] (by omega) rfl
  induction d with
  | zero =>
    intro i acc hi ha
    refine Ev.step (fun k => by rw [Z.customslaw38_ChannelSteps.l0]) ?_
    by_cases c : (i : Int) < (L1.length : Int)
    · exact ev_pos c (ev_neg (by omega) (fin acc (by omega)))
    · exact ev_neg c (fin acc (by omega))
  | succ d ih =>
    intro i acc hi ha
    refine Ev.step (fun k => by rw [Z.customslaw38_ChannelSteps.l0]) ?_
    by_cases c : (i : Int) < (L1.length : Int)
    · refine ev_pos c (ev_pos (by omega) (ev_pos (by omega) ?_))
      obtain ⟨r, e, _⟩ := within_eq' (rd L1 i) 9 (g1 _ (rd_mem' L1 i (by omega) c)) (by omega) (by omega)
      rw [e]
      refine ev_some (ev_pos (by omega) ?_)
      rw [wrap64_id ((i : Int) + 1) (by omega)]
      exact ih (i + 1) (acc ++ [wrap64 (1 + r)]) (by omega) (by simp [ha])
    · exact ev_neg c (fin acc (by omega))
theorem ChannelSteps (a0_0 : Int) (l0_1 : (List Int)) (l0_2 : (List Int)) (a1 : Int) (a2 : Int) (a3 : Int) (a4 : Bool) (w0_0 : (Lit.int .i64 a0_0).wf = true) (w0_1 : (l0_1.length * 8 ≤ 140737488351232 ∧ ∀ z0 ∈ l0_1, (Lit.int .i64 z0).wf = true)) (w0_2 : (l0_2.length * 8 ≤ 140737488351232 ∧ ∀ z0 ∈ l0_2, (Lit.int .i64 z0).wf = true)) (w1 : (Lit.int .i64 a1).wf = true) (w2 : (Lit.int .i64 a2).wf = true) (w3 : (Lit.int .i64 a3).wf = true) (w4 : True) : ∃ k, Z.customslaw38_ChannelSteps.f k a0_0 l0_1 l0_2 a1 a2 a3 a4 = some true := by
  have n0 := i64_of w0_0
  refine Ev.rounds (Ev.congr (fun k => by rw [Z.customslaw38_ChannelSteps.f]) ?_)
  by_cases h : a4 = true
  · exact ev_pos h (steps_ev a0_0 l0_1 l0_2 a1 a2 a3 n0 (by omega) (by omega))
  · refine ev_neg h ?_
    obtain ⟨r, e, e0, e1⟩ := within_eq' a0_0 5 n0 (by omega) (by omega)
    rw [e]
    refine ev_some ?_
    exact steps_l0 a1 a2 a3 a0_0 r l0_1 l0_2 (i64_of w1) (i64_of w2) (i64_of w3) (by omega) (fun x hx => i64_of (w0_1.2 x hx)) (fun x hx => i64_of (w0_2.2 x hx)) 10 0 [] (by omega) rfl
end Go.Proofs.Ytfljnggpnndmkaa.Pure
