/- What the document's Lose, Repeat, Forget and Idle compute. Conditions: those each theorem states. -/
import Derived.Test.YtfljnggpnndmkaaRefCh
import Derived.Test.YtfljnggpnndmkaaZcustomsref33Lose
import Derived.Test.YtfljnggpnndmkaaZcustomsref33Repeat
import Derived.Test.YtfljnggpnndmkaaZcustomsref33Forget
import Derived.Test.YtfljnggpnndmkaaZcustomsref33Idle
import Derived.Test.YtfljnggpnndmkaaZcustomsmadeWithin
namespace Go.Proofs.Ytfljnggpnndmkaa.Pure
open Go.RowKit Go.Proofs.YtfljnggpnndmkaaW.PrintWords Go.Proofs.YtfljnggpnndmkaaW.PrintLast Go.Proofs.YtfljnggpnndmkaaW.PrintMore Go.Proofs.Ytfljnggpnndmkaa.Opening
set_option linter.unusedVariables false
set_option linter.unusedSimpArgs false
theorem ref_lose_eq (a : Int) (W B : List Int) (i : Int) (hW : W.length ≤ 17592186044400) : Z.customsref33_Lose.f a W B i = some (ls a W B i) := by
  rw [Z.customsref33_Lose.f, ls]
  by_cases h0 : i < 0
  · rw [if_pos h0, if_neg (by omega)]
  rw [if_neg h0]
  by_cases h1 : i ≥ (W.length : Int)
  · rw [if_pos h1, if_neg (by omega)]
  rw [if_neg h1, if_pos (by omega), out_eq W i (by omega) (by omega) (by omega), Option.bind_some]
theorem ref_forget_eq (a : Int) (W B : List Int) (i : Int) (hB : B.length ≤ 17592186044400) : Z.customsref33_Forget.f a W B i = some (fg a W B i) := by
  rw [Z.customsref33_Forget.f, fg]
  by_cases h0 : i < 0
  · rw [if_pos h0, if_neg (by omega)]
  rw [if_neg h0]
  by_cases h1 : i ≥ (B.length : Int)
  · rw [if_pos h1, if_neg (by omega)]
  rw [if_neg h1, if_pos (by omega), out_eq B i (by omega) (by omega) (by omega), Option.bind_some]
theorem ref_repeat_ev (a : Int) (W B : List Int) (i : Int) : Ev (fun k => Z.customsref33_Repeat.f k a W B i) (rp a W B i) := by
  have bad : ¬ (0 ≤ i ∧ i < (W.length : Int)) → Ev (fun k => Z.customsref33_Repeat.j0 k i true a W B) (rp a W B i) := by
    intro h
    rw [rp, if_neg h]
    refine Ev.step (fun k => by rw [Z.customsref33_Repeat.j0]) ?_
    exact ev_pos rfl (Ev.now _)
  refine Ev.congr (fun k => by rw [Z.customsref33_Repeat.f]) ?_
  by_cases h0 : i < 0
  · exact ev_pos h0 (bad (by omega))
  refine ev_neg h0 ?_
  by_cases h1 : i ≥ (W.length : Int)
  · rw [decide_eq_true h1]
    exact bad (by omega)
  rw [decide_eq_false h1, rp, if_pos (by omega)]
  refine Ev.step (fun k => by rw [Z.customsref33_Repeat.j0]) ?_
  refine ev_neg (by decide) ?_
  by_cases h2 : (W.length : Int) ≥ 1000
  · simp only [if_pos h2]
    exact Ev.now _
  · simp only [if_neg h2]
    refine (ev_some (ev_pos (by simp only [List.length_nil]; omega) (ev_some (ev_pos (by omega) (ev_pos (by omega) (ev_some (ev_pos (by simp only [List.nil_append, List.length_singleton]; omega) ?_)))))))
    rw [List.nil_append]
    exact Ev.now _
theorem ref_idle_eq (a : Int) (W B : List Int) (s : Int) : Z.customsref33_Idle.f a W B s = Z.channel_Idle.f a W B s := rfl
theorem tr_len (a : Int) (W B : List Int) (s : Int) : (tr a W B s).2.1.length ≤ W.length + 1000 ∧ (tr a W B s).2.2.1.length ≤ B.length ∧ ((tr a W B s).2.1.length ≤ W.length ∨ (tr a W B s).2.1.length ≤ 1000) := by
  unfold tr
  split
  · simp
  · split
    · simp
    · refine ⟨?_, Nat.le_refl _, ?_⟩
      · simp only [List.length_append, upTo, upN_length]; omega
      · right; simp only [List.length_append, upTo, upN_length]; omega
theorem dl_len (a : Int) (W B : List Int) (i r : Int) : (dl a W B i r).2.1.length ≤ W.length ∧ (dl a W B i r).2.2.1.length ≤ B.length + 1 := by
  unfold dl
  split
  · have := List.length_eraseIdx_le W i.toNat
    simp only [List.length_append, List.length_singleton]; omega
  · simp
theorem ls_len (a : Int) (W B : List Int) (i : Int) : (ls a W B i).2.1.length ≤ W.length ∧ (ls a W B i).2.2.1.length ≤ B.length := by
  unfold ls
  split
  · have := List.length_eraseIdx_le W i.toNat
    dsimp only; omega
  · simp
theorem rp_len (a : Int) (W B : List Int) (i : Int) : (rp a W B i).2.1.length ≤ W.length + 1 ∧ (rp a W B i).2.2.1.length ≤ B.length := by
  unfold rp
  split
  · split
    · simp
    · simp only [List.length_append, List.length_singleton]; omega
  · simp
theorem cf_len (a : Int) (W B : List Int) (i : Int) : (cf a W B i).2.1.length ≤ W.length ∧ (cf a W B i).2.2.1.length ≤ B.length := by
  unfold cf
  split
  · have := List.length_eraseIdx_le B i.toNat
    dsimp only; omega
  · simp
theorem fg_len (a : Int) (W B : List Int) (i : Int) : (fg a W B i).2.1.length ≤ W.length ∧ (fg a W B i).2.2.1.length ≤ B.length := by
  unfold fg
  split
  · have := List.length_eraseIdx_le B i.toNat
    dsimp only; omega
  · simp
theorem rd_mem' (l : List Int) (i : Int) (h0 : 0 ≤ i) (h1 : i < (l.length : Int)) : rd l i ∈ l := by
  simp only [rd]
  rw [List.getD_eq_getElem?_getD, List.getElem?_eq_getElem (by omega)]
  exact List.getElem_mem _
theorem within_eq' (a m : Int) (ha : -9223372036854775808 ≤ a ∧ a ≤ 9223372036854775807) (h0 : 0 < m) (h1 : m ≤ 4000000000000000000) : ∃ r, Z.customsmade_Within.f a m = some r ∧ 0 ≤ r ∧ r < m := by
  have h2 : -m < Int.tmod a m := Int.lt_tmod_of_pos a h0
  have h3 : Int.tmod a m < m := Int.tmod_lt_of_pos a h0
  refine ⟨Int.tmod (Int.tmod a m + m) m, ?_, Int.tmod_nonneg _ (by omega), Int.tmod_lt_of_pos _ h0⟩
  simp only [Z.customsmade_Within.f]
  rw [if_neg (by omega), wrap64_id (Int.tmod a m + m) (by omega)]
end Go.Proofs.Ytfljnggpnndmkaa.Pure
