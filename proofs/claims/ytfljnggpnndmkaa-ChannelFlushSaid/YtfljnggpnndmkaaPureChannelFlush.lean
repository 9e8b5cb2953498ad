/- The plain law of customslaw38.ChannelFlush. Conditions: those each theorem states. -/
import Derived.Test.YtfljnggpnndmkaaZcustomslaw38ChannelFlush
import Derived.Test.YtfljnggpnndmkaaOpn
import Derived.Test.YtfljnggpnndmkaaRefCh
import Derived.Test.YtfljnggpnndmkaaChPlay
namespace Go.Proofs.Ytfljnggpnndmkaa.Pure
open Go.RowKit Go.Proofs.YtfljnggpnndmkaaW.PrintWords Go.Proofs.YtfljnggpnndmkaaW.PrintLast Go.Proofs.YtfljnggpnndmkaaW.PrintMore Go.Proofs.Ytfljnggpnndmkaa.Opening

set_option linter.unusedVariables false
set_option linter.unusedSimpArgs false
theorem foldl_mx (s : Int) : ∀ (B : List Int) (a : Int), a ≤ s → (∀ x ∈ B, x ≤ s) → (a = s ∨ s ∈ B) → B.foldl mx a = s := by
  intro B
  induction B with
  | nil => intro a h1 h2 h3; simp at h3; simpa using h3
  | cons b B ih =>
    intro a h1 h2 h3
    have hb := h2 b List.mem_cons_self
    obtain ⟨m1, m2⟩ := mx_le h1 hb
    refine ih (mx a b) m2 (fun x hx => h2 x (List.mem_cons_of_mem _ hx)) ?_
    rcases h3 with h3 | h3
    · exact .inl (by omega)
    · rcases List.mem_cons.1 h3 with h3 | h3
      · refine .inl ?_
        simp only [mx] at m1 m2 ⊢
        split <;> omega
      · exact .inr h3
theorem dlAll_append : ∀ (W1 W2 B : List Int) (r : Int), dlAll (W1 ++ W2) B r = dlAll W2 (dlAll W1 B r).1 (dlAll W1 B r).2
  | [], _, _, _ => rfl
  | x :: W1, W2, B, r => by
    simp only [List.cons_append, dlAll]
    exact dlAll_append W1 W2 _ _
theorem dlAll_le (s : Int) : ∀ (W B : List Int) (r : Int), r ≤ s → (∀ x ∈ W, x ≤ s) → (∀ x ∈ B, x ≤ r) → r ≤ (dlAll W B r).2 ∧ (dlAll W B r).2 ≤ s ∧ ∀ x ∈ (dlAll W B r).1, x ≤ (dlAll W B r).2
  | [], B, r, h1, _, h3 => ⟨Int.le_refl _, h1, h3⟩
  | x :: W, B, r, h1, h2, h3 => by
    have hx := h2 x List.mem_cons_self
    simp only [dlAll]
    obtain ⟨a1, a2, a3⟩ := dlAll_le s W (B ++ [if x = r + 1 then r + 1 else r]) (if x = r + 1 then r + 1 else r) (by split <;> omega) (fun y hy => h2 y (List.mem_cons_of_mem _ hy)) (fun y hy => by
      rcases List.mem_append.1 hy with hy | hy
      · have := h3 y hy
        split <;> omega
      · rw [List.mem_singleton.1 hy]
        exact Int.le_refl _)
    refine ⟨?_, a2, a3⟩
    split at a1 <;> split <;> omega
theorem dlAll_up : ∀ (d : Nat) (a : Int) (B : List Int) (r : Int), a ≤ r → r ≤ a + d → (dlAll (upN d a) B r).2 = a + d ∧ (a + d ∈ (dlAll (upN d a) B r).1 ∨ d = 0)
  | 0, a, B, r, h1, h2 => ⟨by simp only [upN, dlAll]; omega, .inr rfl⟩
  | d + 1, a, B, r, h1, h2 => by
    simp only [upN, dlAll]
    obtain ⟨a1, a2⟩ := dlAll_up d (a + 1) (B ++ [if a + 1 = r + 1 then r + 1 else r]) (if a + 1 = r + 1 then r + 1 else r) (by split <;> omega) (by split <;> omega)
    refine ⟨by rw [a1]; omega, .inl ?_⟩
    rcases a2 with a2 | a2
    · have e : a + ((d + 1 : Nat) : Int) = a + 1 + (d : Int) := by omega
      rw [e]; exact a2
    · subst a2
      have e : a + ((0 + 1 : Nat) : Int) = (if a + 1 = r + 1 then r + 1 else r) := by split <;> omega
      rw [e]
      simp only [upN, dlAll]
      exact List.mem_append.2 (.inr (List.mem_singleton.2 rfl))
theorem dlAll_all (a : Int) (W B : List Int) (s r : Int) (h0 : 0 ≤ a) (h1 : a ≤ r) (h2 : r ≤ s) (hW : ∀ x ∈ W, x ≤ s) (hB : ∀ x ∈ B, x ≤ r) : (dlAll (W ++ upTo a s) B r).1.foldl mx a = s ∧ (dlAll (W ++ upTo a s) B r).2 = s := by
  rw [dlAll_append]
  obtain ⟨b1, b2, b3⟩ := dlAll_le s W B r h2 hW hB
  obtain ⟨c1, c2⟩ := dlAll_up (s - a).toNat a (dlAll W B r).1 (dlAll W B r).2 (by omega) (by omega)
  have e : a + ((s - a).toNat : Int) = s := by omega
  rw [e] at c1 c2
  obtain ⟨d1, d2, d3⟩ := dlAll_le s (upN (s - a).toNat a) (dlAll W B r).1 (dlAll W B r).2 b2 (fun x hx => by have := upN_mem _ _ _ hx; omega) b3
  refine ⟨foldl_mx s _ a (by omega) (fun x hx => by have := d3 x hx; omega) ?_, c1⟩
  rcases c2 with c2 | c2
  · exact .inr c2
  · exact .inl (by omega)
theorem ChannelFlush (l0 : (List Int)) (w0 : (l0.length * 8 ≤ 140737488351232 ∧ ∀ z0 ∈ l0, (Lit.int .i64 z0).wf = true)) : ∃ k, Z.customslaw38_ChannelFlush.f k l0 = some true := by
  obtain ⟨a, s, r, W, B, e, ⟨p1, p2, p3, p4⟩, p5, p6, p7, p8⟩ := play_good l0
  refine Ev.rounds (Ev.congr (fun k => by rw [Z.customslaw38_ChannelFlush.f]) ?_)
  refine Ev.bind e ?_
  dsimp only
  have hf : fsh a W B s r = (s, [], [], s, 0) := by
    have ht : tr a W B s = (a, W ++ upTo a s, B, 0) := by
      unfold tr
      rw [if_neg (by omega), if_neg (by omega)]
    unfold fsh
    rw [ht]
    dsimp only
    rw [if_pos rfl, if_neg (by omega), fshR]
    obtain ⟨q1, q2⟩ := dlAll_all a W B s r p1 p2 p3 p5 p6
    rw [q1, q2]
  refine Ev.bind (flush_ev a W B s r (by omega) (by omega) (by omega)) (Ev.bind (ref_flush_ev a W B s r (by omega) (by omega) (by omega)) ?_)
  rw [hf]
  refine ev_pos rfl (ev_pos rfl (ev_pos rfl (ev_pos rfl (ev_pos rfl (Ev.bind (sameLine_ev _ _ _ (by simp) (by simp)) (ev_pos rfl ?_))))))
  rw [idle_eq]
  refine ev_some (ev_pos (by simp) (Ev.bind awake38 (Ev.now _)))
end Go.Proofs.Ytfljnggpnndmkaa.Pure
