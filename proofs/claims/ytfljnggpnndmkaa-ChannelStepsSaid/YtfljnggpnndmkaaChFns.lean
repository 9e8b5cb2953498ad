/- What the channel's functions compute. Conditions: those each theorem states. -/
import Derived.Test.YtfljnggpnndmkaaBase
import Derived.Test.YtfljnggpnndmkaaZchannelTransmit
import Derived.Test.YtfljnggpnndmkaaZchannelDeliver
import Derived.Test.YtfljnggpnndmkaaZchannelLose
import Derived.Test.YtfljnggpnndmkaaZchannelRepeat
import Derived.Test.YtfljnggpnndmkaaZchannelConfirm
import Derived.Test.YtfljnggpnndmkaaZchannelForget
import Derived.Test.YtfljnggpnndmkaaZchannelIdle
import Derived.Test.YtfljnggpnndmkaaZcustomsref33SameInts
namespace Go.Proofs.Ytfljnggpnndmkaa.Pure
open Go.RowKit Go.Proofs.YtfljnggpnndmkaaW.PrintWords Go.Proofs.YtfljnggpnndmkaaW.PrintLast Go.Proofs.YtfljnggpnndmkaaW.PrintMore Go.Proofs.Ytfljnggpnndmkaa.Opening
set_option linter.unusedVariables false
set_option linter.unusedSimpArgs false
def upN : Nat → Int → List Int
  | 0, _ => []
  | d + 1, a => (a + 1) :: upN d (a + 1)
def upTo (a s : Int) : List Int := upN (s - a).toNat a
theorem upN_length : ∀ (d : Nat) (a : Int), (upN d a).length = d
  | 0, _ => rfl
  | d + 1, a => by simp [upN, upN_length d]
theorem upN_mem : ∀ (d : Nat) (a x : Int), x ∈ upN d a → a < x ∧ x ≤ a + d
  | 0, _, _, h => by simp [upN] at h
  | d + 1, a, x, h => by
    rcases List.mem_cons.1 h with rfl | h
    · omega
    · have := upN_mem d _ _ h
      omega
theorem clone_eq (l : List Int) (h : l.length ≤ 17592186044400) : Z.slices_Clone_int_int.f l = some l := if_pos (by omega)
theorem copied_eq (a : Int) (W B : List Int) (hW : W.length ≤ 17592186044400) (hB : B.length ≤ 17592186044400) : Z.channel_copied.f a W B = some (a, W, B) := by
  simp only [Z.channel_copied.f, clone_eq W hW, clone_eq B hB, Option.bind_some]
theorem has_eq (l : List Int) (i : Int) : Z.channel_has.f l i = some (decide (0 ≤ i ∧ i < (l.length : Int))) := by
  simp only [Z.channel_has.f]
  by_cases h : i ≥ 0
  · rw [if_pos h]
    have : (0 ≤ i ∧ i < (l.length : Int)) ↔ i < (l.length : Int) := by omega
    simp only [this]
  · rw [if_neg h]
    have : ¬ (0 ≤ i ∧ i < (l.length : Int)) := by omega
    simp only [this, decide_false]
theorem count_eq (r : Int) : Z.channel_count.f r = some (decide (0 ≤ r ∧ r ≤ 1000000)) := by
  simp only [Z.channel_count.f]
  by_cases h : r ≥ 0
  · rw [if_pos h]
    have : (0 ≤ r ∧ r ≤ 1000000) ↔ r ≤ 1000000 := by omega
    simp only [this]
  · rw [if_neg h]
    have : ¬ (0 ≤ r ∧ r ≤ 1000000) := by omega
    simp only [this, decide_false]
theorem delete_eq (l : List Int) (i : Int) (h0 : 0 ≤ i) (h1 : i < (l.length : Int)) (hl : l.length ≤ 17592186044400) : Z.slices_Delete_int_int.f l i (wrap64 (i + 1)) = some (l.eraseIdx i.toNat) := by
  simp only [Z.slices_Delete_int_int.f]
  rw [if_pos h0, if_pos h1, if_pos (wrap64_id _ (by omega))]
def tr (a : Int) (W B : List Int) (s : Int) : Int × List Int × List Int × Int :=
  if a < 0 ∨ s < a ∨ s > 1000000 then (0, [], [], 2) else if s - a > 1000 - (W.length : Int) then (0, [], [], 8) else (a, W ++ upTo a s, B, 0)
theorem transmit_loop (a : Int) (B : List Int) (s : Int) (hs : s ≤ 1000000) : ∀ (d : Nat) (n : Int) (W : List Int), s = n + d → 0 ≤ n → (W.length : Int) ≤ 17592170000000 + n →
    Ev (fun k => Z.channel_Transmit.l0 k s (n + 1) a W B) (a, W ++ upN d n, B, 0) := by
  intro d
  induction d with
  | zero =>
    intro n W hn h0 hW
    refine Ev.step (fun k => by rw [Z.channel_Transmit.l0]) ?_
    refine ev_neg (by omega) ?_
    simp only [upN, List.append_nil]
    exact Ev.now _
  | succ d ih =>
    intro n W hn h0 hW
    refine Ev.step (fun k => by rw [Z.channel_Transmit.l0]) ?_
    refine ev_pos (by omega) (ev_pos (by omega) ?_)
    rw [wrap64_id (n + 1 + 1) (by omega)]
    have := ih (n + 1) (W ++ [n + 1]) (by omega) (by omega) (by simp only [List.length_append, List.length_singleton]; omega)
    simpa only [upN, List.append_assoc, List.singleton_append] using this
theorem transmit_ev (a : Int) (W B : List Int) (s : Int) (ha : -9223372036854775808 ≤ a ∧ a ≤ 9223372036854775807) (hW : W.length ≤ 17592186044400) (hB : B.length ≤ 17592186044400) : Ev (fun k => Z.channel_Transmit.f k a W B s) (tr a W B s) := by
  have bad : (a < 0 ∨ s < a ∨ s > 1000000) → Ev (fun k => Z.channel_Transmit.j0 k s true a W B) (tr a W B s) := by
    intro h
    unfold tr
    rw [if_pos h]
    refine Ev.step (fun k => by rw [Z.channel_Transmit.j0]) ?_
    exact ev_pos rfl (Ev.now _)
  refine Ev.congr (fun k => by rw [Z.channel_Transmit.f]) ?_
  by_cases h0 : a < 0
  · exact ev_pos h0 (bad (.inl h0))
  refine ev_neg h0 ?_
  by_cases h1 : s < a
  · exact ev_pos h1 (bad (.inr (.inl h1)))
  refine ev_neg h1 ?_
  by_cases h2 : s > 1000000
  · rw [decide_eq_true h2]
    exact bad (.inr (.inr h2))
  rw [decide_eq_false h2]
  refine Ev.step (fun k => by rw [Z.channel_Transmit.j0]) ?_
  refine ev_neg (by decide) ?_
  rw [wrap64_id (s - a) (by omega), wrap64_id (1000 - (W.length : Int)) (by omega)]
  unfold tr
  rw [if_neg (by omega)]
  by_cases h3 : s - a > 1000 - (W.length : Int)
  · rw [if_pos h3]
    exact ev_pos h3 (Ev.now _)
  rw [if_neg h3]
  refine ev_neg h3 ?_
  rw [copied_eq a W B (by omega) (by omega)]
  refine ev_some ?_
  dsimp only
  rw [wrap64_id (a + 1) (by omega)]
  exact transmit_loop a B s (by omega) (s - a).toNat a W (by omega) (by omega) (by omega)
def dl (a : Int) (W B : List Int) (i r : Int) : Int × List Int × List Int × Int × Int :=
  if (0 ≤ i ∧ i < (W.length : Int)) ∧ (0 ≤ r ∧ r ≤ 1000000) then (a, W.eraseIdx i.toNat, B ++ [if rd W i = r + 1 then r + 1 else r], rd W i, 0) else (0, [], [], 0, 2)
theorem deliver_ev (a : Int) (W B : List Int) (i r : Int) (hW : W.length ≤ 17592186044400) (hB : B.length ≤ 17592186044400) : Ev (fun k => Z.channel_Deliver.f k a W B i r) (dl a W B i r) := by
  refine Ev.congr (fun k => by rw [Z.channel_Deliver.f, has_eq, count_eq]) ?_
  refine ev_some ?_
  by_cases h0 : 0 ≤ i ∧ i < (W.length : Int)
  · refine ev_pos (decide_eq_true h0) (ev_some ?_)
    refine Ev.step (fun k => by rw [Z.channel_Deliver.j0]) ?_
    by_cases h1 : 0 ≤ r ∧ r ≤ 1000000
    · rw [show dl a W B i r = _ from if_pos ⟨h0, h1⟩]
      refine ev_neg (by simp [h1]) ?_
      rw [copied_eq a W B (by omega) (by omega)]
      refine ev_some ?_
      dsimp only
      refine ev_pos h0.1 (ev_pos h0.2 ?_)
      rw [delete_eq W i h0.1 h0.2 (by omega), wrap64_id (r + 1) (by omega)]
      refine ev_some ?_
      by_cases h2 : rd W i = r + 1
      · simp only [if_pos h2]
        exact ev_pos (by omega) (Ev.now _)
      · simp only [if_neg h2]
        exact ev_pos (by omega) (Ev.now _)
    · rw [show dl a W B i r = _ from if_neg (fun h => h1 h.2)]
      exact ev_pos (by simp only [decide_eq_false h1]; rfl) (Ev.now _)
  · rw [show dl a W B i r = _ from if_neg (fun h => h0 h.1)]
    refine ev_neg (by simp [h0]) ?_
    refine Ev.step (fun k => by rw [Z.channel_Deliver.j0]) ?_
    exact ev_pos rfl (Ev.now _)
def ls (a : Int) (W B : List Int) (i : Int) : Int × List Int × List Int × Int := if 0 ≤ i ∧ i < (W.length : Int) then (a, W.eraseIdx i.toNat, B, 0) else (0, [], [], 2)
theorem lose_eq (a : Int) (W B : List Int) (i : Int) (hW : W.length ≤ 17592186044400) (hB : B.length ≤ 17592186044400) : Z.channel_Lose.f a W B i = some (ls a W B i) := by
  rw [Z.channel_Lose.f, has_eq, Option.bind_some, ls]
  by_cases h0 : 0 ≤ i ∧ i < (W.length : Int)
  · rw [if_pos (decide_eq_true h0), if_pos h0, copied_eq a W B (by omega) (by omega), Option.bind_some, delete_eq W i h0.1 h0.2 (by omega), Option.bind_some]
  · rw [if_neg (by simp [h0]), if_neg h0]
def rp (a : Int) (W B : List Int) (i : Int) : Int × List Int × List Int × Int := if 0 ≤ i ∧ i < (W.length : Int) then (if (W.length : Int) ≥ 1000 then (0, [], [], 8) else (a, W ++ [rd W i], B, 0)) else (0, [], [], 2)
theorem repeat_eq (a : Int) (W B : List Int) (i : Int) (hW : W.length ≤ 17592186044400) (hB : B.length ≤ 17592186044400) : Z.channel_Repeat.f a W B i = some (rp a W B i) := by
  rw [Z.channel_Repeat.f, has_eq, Option.bind_some, rp]
  by_cases h0 : 0 ≤ i ∧ i < (W.length : Int)
  · rw [if_pos (decide_eq_true h0), if_pos h0]
    by_cases h1 : (W.length : Int) ≥ 1000
    · rw [if_pos h1, if_pos h1]
    · rw [if_neg h1, if_neg h1, copied_eq a W B (by omega) (by omega), Option.bind_some]
      dsimp only
      rw [if_pos h0.1, if_pos h0.2, if_pos (by omega)]
  · rw [if_neg (by simp [h0]), if_neg h0]
def cf (a : Int) (W B : List Int) (i : Int) : Int × List Int × List Int × Int := if 0 ≤ i ∧ i < (B.length : Int) then (mx a (rd B i), W, B.eraseIdx i.toNat, 0) else (0, [], [], 2)
theorem confirm_eq (a : Int) (W B : List Int) (i : Int) (hW : W.length ≤ 17592186044400) (hB : B.length ≤ 17592186044400) : Z.channel_Confirm.f a W B i = some (cf a W B i) := by
  rw [Z.channel_Confirm.f, has_eq, Option.bind_some, cf]
  by_cases h0 : 0 ≤ i ∧ i < (B.length : Int)
  · rw [if_pos (decide_eq_true h0), if_pos h0, copied_eq a W B (by omega) (by omega), Option.bind_some]
    dsimp only
    rw [if_pos h0.1, if_pos h0.2, delete_eq B i h0.1 h0.2 (by omega), Option.bind_some]
  · rw [if_neg (by simp [h0]), if_neg h0]
def fg (a : Int) (W B : List Int) (i : Int) : Int × List Int × List Int × Int := if 0 ≤ i ∧ i < (B.length : Int) then (a, W, B.eraseIdx i.toNat, 0) else (0, [], [], 2)
theorem forget_eq (a : Int) (W B : List Int) (i : Int) (hW : W.length ≤ 17592186044400) (hB : B.length ≤ 17592186044400) : Z.channel_Forget.f a W B i = some (fg a W B i) := by
  rw [Z.channel_Forget.f, has_eq, Option.bind_some, fg]
  by_cases h0 : 0 ≤ i ∧ i < (B.length : Int)
  · rw [if_pos (decide_eq_true h0), if_pos h0, copied_eq a W B (by omega) (by omega), Option.bind_some, delete_eq B i h0.1 h0.2 (by omega), Option.bind_some]
  · rw [if_neg (by simp [h0]), if_neg h0]
end Go.Proofs.Ytfljnggpnndmkaa.Pure
