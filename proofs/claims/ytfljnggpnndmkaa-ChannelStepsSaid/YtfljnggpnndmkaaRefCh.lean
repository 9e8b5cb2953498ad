/- What the document's channel and Flush compute. Conditions: those each theorem states. -/
import Derived.Test.YtfljnggpnndmkaaChFns
import Derived.Test.YtfljnggpnndmkaaZchannelFlush
import Derived.Test.YtfljnggpnndmkaaZcustomsref33Flush
import Derived.Test.YtfljnggpnndmkaaZcustomsref33SameLine
namespace Go.Proofs.Ytfljnggpnndmkaa.Pure
open Go.RowKit Go.Proofs.YtfljnggpnndmkaaW.PrintWords Go.Proofs.YtfljnggpnndmkaaW.PrintLast Go.Proofs.YtfljnggpnndmkaaW.PrintMore Go.Proofs.Ytfljnggpnndmkaa.Opening
set_option linter.unusedVariables false
set_option linter.unusedSimpArgs false
theorem out_eq (l : List Int) (i : Int) (h0 : 0 ≤ i) (h1 : i < (l.length : Int)) (hl : l.length ≤ 17592186044400) : Z.customsref33_out.f l i = some (l.eraseIdx i.toNat) := by
  simp only [Z.customsref33_out.f, Option.bind_some, List.length_nil, List.nil_append, Nat.zero_add]
  rw [wrap64_id (i + 1) (by omega), if_pos h0, if_pos (by omega), if_pos (by rw [List.length_take]; omega), if_pos (by omega), if_pos (by omega), if_pos (by rw [List.length_take, List.length_drop]; omega), List.eraseIdx_eq_take_drop_succ]
  congr 3
  omega
theorem ref_loop (a : Int) (W0 B : List Int) (s : Int) (hs : s ≤ 1000000) : ∀ (d : Nat) (n : Int) (W : List Int), s = n + d → 0 ≤ n → (W.length : Int) ≤ 17592170000000 + n →
    Ev (fun k => Z.customsref33_Transmit.l0 k s W (n + 1) a W0 B) (a, W ++ upN d n, B, 0) := by
  intro d
  induction d with
  | zero =>
    intro n W hn h0 hW
    refine Ev.step (fun k => by rw [Z.customsref33_Transmit.l0]) ?_
    refine ev_neg (by omega) ?_
    simp only [upN, List.append_nil]
    exact Ev.now _
  | succ d ih =>
    intro n W hn h0 hW
    refine Ev.step (fun k => by rw [Z.customsref33_Transmit.l0]) ?_
    refine ev_pos (by omega) (ev_pos (by omega) ?_)
    rw [wrap64_id (n + 1 + 1) (by omega)]
    have := ih (n + 1) (W ++ [n + 1]) (by omega) (by omega) (by simp only [List.length_append, List.length_singleton]; omega)
    simpa only [upN, List.append_assoc, List.singleton_append] using this
theorem ref_transmit_ev (a : Int) (W B : List Int) (s : Int) (ha : -9223372036854775808 ≤ a ∧ a ≤ 9223372036854775807) (hW : W.length ≤ 17592186044400) (hB : B.length ≤ 17592186044400) : Ev (fun k => Z.customsref33_Transmit.f k a W B s) (tr a W B s) := by
  have bad : (a < 0 ∨ s < a ∨ s > 1000000) → Ev (fun k => Z.customsref33_Transmit.j0 k s true a W B) (tr a W B s) := by
    intro h
    unfold tr
    rw [if_pos h]
    refine Ev.step (fun k => by rw [Z.customsref33_Transmit.j0]) ?_
    exact ev_pos rfl (Ev.now _)
  refine Ev.congr (fun k => by rw [Z.customsref33_Transmit.f]) ?_
  by_cases h0 : a < 0
  · exact ev_pos h0 (bad (.inl h0))
  refine ev_neg h0 ?_
  by_cases h1 : s < a
  · exact ev_pos h1 (bad (.inr (.inl h1)))
  refine ev_neg h1 ?_
  by_cases h2 : s > 1000000
  · rw [decide_eq_true h2]
    exact bad (.inr (.inr h2))
  rw [decide_eq_false h2]
  refine Ev.step (fun k => by rw [Z.customsref33_Transmit.j0]) ?_
  refine ev_neg (by decide) ?_
  rw [wrap64_id (s - a) (by omega), wrap64_id (1000 - (W.length : Int)) (by omega)]
  unfold tr
  rw [if_neg (by omega)]
  by_cases h3 : s - a > 1000 - (W.length : Int)
  · rw [if_pos h3]
    exact ev_pos h3 (Ev.now _)
  rw [if_neg h3]
  refine ev_neg h3 (ev_some (ev_pos (by simp only [List.length_nil]; omega) ?_))
  rw [wrap64_id (a + 1) (by omega), List.nil_append]
  exact ref_loop a W B s (by omega) (s - a).toNat a W (by omega) (by omega) (by omega)
theorem ref_deliver_ev (a : Int) (W B : List Int) (i r : Int) (hW : W.length ≤ 17592186044400) (hB : B.length ≤ 17592186044400) : Ev (fun k => Z.customsref33_Deliver.f k a W B i r) (dl a W B i r) := by
  have bad : ¬ ((0 ≤ i ∧ i < (W.length : Int)) ∧ (0 ≤ r ∧ r ≤ 1000000)) → Ev (fun k => Z.customsref33_Deliver.j0 k i r true a W B) (dl a W B i r) := by
    intro h
    rw [show dl a W B i r = _ from if_neg h]
    refine Ev.step (fun k => by rw [Z.customsref33_Deliver.j0]) ?_
    exact ev_pos rfl (Ev.now _)
  refine Ev.congr (fun k => by rw [Z.customsref33_Deliver.f]) ?_
  by_cases h0 : i < 0
  · exact ev_pos h0 (bad (by omega))
  refine ev_neg h0 ?_
  by_cases h1 : i ≥ (W.length : Int)
  · exact ev_pos h1 (bad (by omega))
  refine ev_neg h1 ?_
  by_cases h2 : r < 0
  · exact ev_pos h2 (bad (by omega))
  refine ev_neg h2 ?_
  by_cases h3 : r > 1000000
  · rw [decide_eq_true h3]
    exact bad (by omega)
  rw [decide_eq_false h3, show dl a W B i r = _ from if_pos (by omega)]
  refine Ev.step (fun k => by rw [Z.customsref33_Deliver.j0]) ?_
  refine ev_neg (by decide) (ev_pos (by omega) (ev_pos (by omega) ?_))
  rw [out_eq W i (by omega) (by omega) (by omega), wrap64_id (r + 1) (by omega)]
  by_cases h4 : rd W i = r + 1
  · simp only [if_pos h4]
    refine ev_some (ev_some (ev_pos (by simp only [List.length_nil]; omega) (ev_some (ev_some (ev_pos (by simp only [List.nil_append, List.length_singleton]; omega) ?_)))))
    rw [List.nil_append, h4]
    exact Ev.now _
  · simp only [if_neg h4]
    refine ev_some (ev_some (ev_pos (by simp only [List.length_nil]; omega) (ev_some (ev_some (ev_pos (by simp only [List.nil_append, List.length_singleton]; omega) ?_)))))
    rw [List.nil_append]
    exact Ev.now _
theorem ref_confirm_eq (a : Int) (W B : List Int) (i : Int) (hB : B.length ≤ 17592186044400) : Z.customsref33_Confirm.f a W B i = some (cf a W B i) := by
  rw [Z.customsref33_Confirm.f, cf]
  by_cases h0 : i < 0
  · rw [if_pos h0, if_neg (by omega)]
  rw [if_neg h0]
  by_cases h1 : i ≥ (B.length : Int)
  · rw [if_pos h1, if_neg (by omega)]
  rw [if_neg h1, if_pos (by omega), if_pos (by omega), if_pos (by omega), out_eq B i (by omega) (by omega) (by omega), Option.bind_some]
theorem sameInts_loop (l : List Int) (hl : l.length ≤ 17592186044416) : ∀ (d i : Nat), i + d = l.length → Ev (fun k => Z.customsref33_SameInts.l0 k l l (i : Int)) true := by
  intro d
  induction d with
  | zero =>
    intro i hi
    refine Ev.step (fun k => by rw [Z.customsref33_SameInts.l0]) ?_
    exact ev_neg (by omega) (Ev.now _)
  | succ d ih =>
    intro i hi
    refine Ev.step (fun k => by rw [Z.customsref33_SameInts.l0]) ?_
    refine ev_pos (by omega) (ev_pos (by omega) (ev_pos (by omega) (ev_pos rfl ?_)))
    rw [wrap64_id ((i : Int) + 1) (by omega)]
    exact ih (i + 1) (by omega)
theorem sameInts_ev (l : List Int) (hl : l.length ≤ 17592186044416) : Ev (fun k => Z.customsref33_SameInts.f k l l) true := by
  refine Ev.congr (fun k => by rw [Z.customsref33_SameInts.f]) ?_
  exact ev_pos rfl (sameInts_loop l hl l.length 0 (by omega))
theorem sameLine_ev (a : Int) (W B : List Int) (hW : W.length ≤ 17592186044416) (hB : B.length ≤ 17592186044416) : Ev (fun k => Z.customsref33_SameLine.f k a W B a W B) true := by
  refine Ev.congr (fun k => by rw [Z.customsref33_SameLine.f]) ?_
  exact ev_pos rfl (Ev.bind (sameInts_ev W hW) (ev_pos rfl (Ev.bind (sameInts_ev B hB) (Ev.now _))))
def dlAll : List Int → List Int → Int → List Int × Int
  | [], B, r => (B, r)
  | x :: W, B, r => dlAll W (B ++ [if x = r + 1 then r + 1 else r]) (if x = r + 1 then r + 1 else r)
def fshR (a : Int) (W B : List Int) (r : Int) : Int × List Int × List Int × Int × Int := ((dlAll W B r).1.foldl mx a, [], [], (dlAll W B r).2, 0)
def fsh (a : Int) (W B : List Int) (s r : Int) : Int × List Int × List Int × Int × Int :=
  if (tr a W B s).2.2.2 = 0 then (if r < 0 ∨ r > 999000 then (0, [], [], 0, 2) else fshR (tr a W B s).1 (tr a W B s).2.1 (tr a W B s).2.2.1 r) else (0, [], [], 0, (tr a W B s).2.2.2)
theorem confirm_loop (r : Int) : ∀ (B : List Int) (a : Int), B.length ≤ 17592160000000 → Ev (fun k => Z.channel_Flush.l0 k r a [] B) (B.foldl mx a, [], [], r, 0) := by
  intro B
  induction B with
  | nil =>
    intro a hB
    refine Ev.step (fun k => by rw [Z.channel_Flush.l0]) ?_
    exact ev_neg (by simp) (Ev.now _)
  | cons b B ih =>
    intro a hB
    have hl : (b :: B).length = B.length + 1 := rfl
    refine Ev.step (fun k => by rw [Z.channel_Flush.l0, confirm_eq a [] (b :: B) 0 (by simp) (by omega)]) ?_
    refine ev_pos (by omega) (ev_some ?_)
    rw [cf, if_pos (by omega)]
    exact ih (mx a b) (by omega)
theorem ref_confirm_loop (r : Int) : ∀ (B : List Int) (a : Int), B.length ≤ 17592160000000 → Ev (fun k => Z.customsref33_Flush.l1 k r a [] B) (B.foldl mx a, [], [], r, 0) := by
  intro B
  induction B with
  | nil =>
    intro a hB
    refine Ev.step (fun k => by rw [Z.customsref33_Flush.l1]) ?_
    exact ev_neg (by simp) (Ev.now _)
  | cons b B ih =>
    intro a hB
    have hl : (b :: B).length = B.length + 1 := rfl
    refine Ev.step (fun k => by rw [Z.customsref33_Flush.l1, ref_confirm_eq a [] (b :: B) 0 (by omega)]) ?_
    refine ev_pos (by omega) (ev_some ?_)
    rw [cf, if_pos (by omega)]
    exact ih (mx a b) (by omega)
theorem dl_head (a x : Int) (W B : List Int) (r : Int) (hr : 0 ≤ r ∧ r ≤ 1000000) : dl a (x :: W) B 0 r = (a, W, B ++ [if x = r + 1 then r + 1 else r], x, 0) := by
  rw [show dl a (x :: W) B 0 r = _ from if_pos ⟨⟨by omega, by simp only [List.length_cons]; omega⟩, hr⟩]
  rfl
theorem deliver_loop (a : Int) : ∀ (W B : List Int) (r : Int), 0 ≤ r → r + W.length ≤ 1000000 → B.length + W.length ≤ 17592150000000 → Ev (fun k => Z.channel_Flush.l1 k r a W B) (fshR a W B r) := by
  intro W
  induction W with
  | nil =>
    intro B r h0 h1 hB
    simp only [List.length_nil] at h1 hB
    refine Ev.step (fun k => by rw [Z.channel_Flush.l1]) ?_
    exact ev_neg (by simp) (confirm_loop r B a (by omega))
  | cons x W ih =>
    intro B r h0 h1 hB
    simp only [List.length_cons] at h1 hB
    refine Ev.step (fun k => by rw [Z.channel_Flush.l1]) ?_
    refine ev_pos (by simp only [List.length_cons]; omega) (Ev.bind (deliver_ev a (x :: W) B 0 r (by simp only [List.length_cons]; omega) (by omega)) ?_)
    rw [dl_head a x W B r (by omega), wrap64_id (r + 1) (by omega)]
    by_cases hx : x = r + 1
    · refine ev_pos hx ?_
      have := ih (B ++ [r + 1]) (r + 1) (by omega) (by omega) (by simp only [List.length_append, List.length_singleton]; omega)
      simpa only [fshR, dlAll, if_pos hx] using this
    · refine ev_neg hx ?_
      have := ih (B ++ [r]) r (by omega) (by omega) (by simp only [List.length_append, List.length_singleton]; omega)
      simpa only [fshR, dlAll, if_neg hx] using this
theorem ref_deliver_loop (a : Int) : ∀ (W B : List Int) (r : Int), 0 ≤ r → r + W.length ≤ 1000000 → B.length + W.length ≤ 17592150000000 → Ev (fun k => Z.customsref33_Flush.l0 k r a W B) (fshR a W B r) := by
  intro W
  induction W with
  | nil =>
    intro B r h0 h1 hB
    simp only [List.length_nil] at h1 hB
    refine Ev.step (fun k => by rw [Z.customsref33_Flush.l0]) ?_
    exact ev_neg (by simp) (ref_confirm_loop r B a (by omega))
  | cons x W ih =>
    intro B r h0 h1 hB
    simp only [List.length_cons] at h1 hB
    refine Ev.step (fun k => by rw [Z.customsref33_Flush.l0]) ?_
    refine ev_pos (by simp only [List.length_cons]; omega) (Ev.bind (ref_deliver_ev a (x :: W) B 0 r (by simp only [List.length_cons]; omega) (by omega)) ?_)
    rw [dl_head a x W B r (by omega), wrap64_id (r + 1) (by omega)]
    by_cases hx : x = r + 1
    · refine ev_pos hx ?_
      have := ih (B ++ [r + 1]) (r + 1) (by omega) (by omega) (by simp only [List.length_append, List.length_singleton]; omega)
      simpa only [fshR, dlAll, hx, if_true] using this
    · refine ev_neg hx ?_
      have := ih (B ++ [r]) r (by omega) (by omega) (by simp only [List.length_append, List.length_singleton]; omega)
      simpa only [fshR, dlAll, if_neg hx] using this
theorem tr_ok {a : Int} {W B : List Int} {s : Int} (h : (tr a W B s).2.2.2 = 0) : tr a W B s = (a, W ++ upTo a s, B, 0) ∧ (W ++ upTo a s).length ≤ 1000 ∧ 0 ≤ a ∧ a ≤ s ∧ s ≤ 1000000 := by
  unfold tr at h ⊢
  by_cases c1 : a < 0 ∨ s < a ∨ s > 1000000
  · rw [if_pos c1] at h
    exact absurd h (by decide)
  by_cases c2 : s - a > 1000 - (W.length : Int)
  · rw [if_neg c1, if_pos c2] at h
    exact absurd h (by decide)
  rw [if_neg c1, if_neg c2]
  refine ⟨rfl, ?_, by omega, by omega, by omega⟩
  rw [List.length_append, upTo, upN_length]
  omega
theorem flush_ev (a : Int) (W B : List Int) (s r : Int) (ha : -9223372036854775808 ≤ a ∧ a ≤ 9223372036854775807) (hW : W.length ≤ 17592140000000) (hB : B.length ≤ 17592140000000) : Ev (fun k => Z.channel_Flush.f k a W B s r) (fsh a W B s r) := by
  refine Ev.congr (fun k => by rw [Z.channel_Flush.f]) ?_
  refine Ev.bind (transmit_ev a W B s ha (by omega) (by omega)) ?_
  unfold fsh
  by_cases h : (tr a W B s).2.2.2 = 0
  · rw [if_pos h]
    refine ev_pos h ?_
    obtain ⟨e, h1, h2, h3, h4⟩ := tr_ok h
    rw [e]
    dsimp only
    by_cases h5 : r < 0
    · rw [if_pos (.inl h5)]
      refine ev_pos h5 (Ev.step (fun k => by rw [Z.channel_Flush.j0]) ?_)
      exact ev_pos rfl (Ev.now _)
    refine ev_neg h5 (Ev.step (fun k => by rw [Z.channel_Flush.j0]) ?_)
    by_cases h6 : r > 999000
    · rw [if_pos (.inr h6)]
      exact ev_pos (decide_eq_true h6) (Ev.now _)
    rw [if_neg (by omega)]
    exact ev_neg (by simp only [decide_eq_true_eq]; exact h6) (deliver_loop a _ B r (by omega) (by omega) (by omega))
  · rw [if_neg h]
    exact ev_neg h (Ev.now _)
theorem ref_flush_ev (a : Int) (W B : List Int) (s r : Int) (ha : -9223372036854775808 ≤ a ∧ a ≤ 9223372036854775807) (hW : W.length ≤ 17592140000000) (hB : B.length ≤ 17592140000000) : Ev (fun k => Z.customsref33_Flush.f k a W B s r) (fsh a W B s r) := by
  refine Ev.congr (fun k => by rw [Z.customsref33_Flush.f]) ?_
  refine Ev.bind (ref_transmit_ev a W B s ha (by omega) (by omega)) ?_
  unfold fsh
  by_cases h : (tr a W B s).2.2.2 = 0
  · rw [if_pos h]
    refine ev_pos h ?_
    obtain ⟨e, h1, h2, h3, h4⟩ := tr_ok h
    rw [e]
    dsimp only
    by_cases h5 : r < 0
    · rw [if_pos (.inl h5)]
      refine ev_pos h5 (Ev.step (fun k => by rw [Z.customsref33_Flush.j0]) ?_)
      refine ev_pos rfl (Ev.step (fun k => by rw [Z.customsref33_Flush.j1]) ?_)
      exact ev_neg (by decide) (Ev.now _)
    refine ev_neg h5 (Ev.step (fun k => by rw [Z.customsref33_Flush.j0]) ?_)
    by_cases h6 : r > 999000
    · rw [if_pos (.inr h6)]
      refine ev_pos (decide_eq_true h6) (Ev.step (fun k => by rw [Z.customsref33_Flush.j1]) ?_)
      exact ev_neg (by decide) (Ev.now _)
    rw [if_neg (by omega)]
    refine ev_neg (by simp only [decide_eq_true_eq]; exact h6) (Ev.step (fun k => by rw [Z.customsref33_Flush.j1]) ?_)
    exact ev_pos rfl (ref_deliver_loop a _ B r (by omega) (by omega) (by omega))
  · rw [if_neg h]
    refine ev_neg h (Ev.step (fun k => by rw [Z.customsref33_Flush.j0]) ?_)
    refine ev_neg (by decide) (Ev.step (fun k => by rw [Z.customsref33_Flush.j1]) ?_)
    exact ev_neg h (Ev.now _)
theorem idle_eq (a : Int) (W B : List Int) (s : Int) : Z.channel_Idle.f a W B s = some (decide (a = s ∧ W = [] ∧ B = [])) := by
  simp only [Z.channel_Idle.f]
  by_cases h : a = s
  · rw [if_pos h]
    cases W with
    | nil => cases B <;> simp [h] <;> omega
    | cons x W => rw [if_neg (by simp only [List.length_cons]; omega)]; simp
  · rw [if_neg h]; simp [h]
theorem fsh_len (a : Int) (W B : List Int) (s r : Int) : (fsh a W B s r).2.1 = [] ∧ (fsh a W B s r).2.2.1 = [] := by
  unfold fsh
  split
  · split <;> exact ⟨rfl, rfl⟩
  · exact ⟨rfl, rfl⟩
end Go.Proofs.Ytfljnggpnndmkaa.Pure
