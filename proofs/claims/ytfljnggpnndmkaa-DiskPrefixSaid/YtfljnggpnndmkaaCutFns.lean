/- What the law's cut, SameRecords, Within and Crash compute. Conditions: those each theorem states. -/
import Derived.Test.YtfljnggpnndmkaaJFns
import Derived.Test.YtfljnggpnndmkaaZcustomslaw34cut
import Derived.Test.YtfljnggpnndmkaaZcustomsref33SameRecords
import Derived.Test.YtfljnggpnndmkaaZcustomsmadeWithin
import Derived.Test.YtfljnggpnndmkaaZdiskCrash
namespace Go.Proofs.Ytfljnggpnndmkaa.Pure
open Go.RowKit Go.Proofs.YtfljnggpnndmkaaW.PrintWords Go.Proofs.YtfljnggpnndmkaaW.PrintLast Go.Proofs.YtfljnggpnndmkaaW.PrintMore Go.Proofs.Ytfljnggpnndmkaa.Opening
set_option linter.unusedVariables false
set_option linter.unusedSimpArgs false
theorem within_eq (a m : Int) (ha : -9223372036854775808 ≤ a ∧ a ≤ 9223372036854775807) (h0 : 0 < m) (h1 : m ≤ 4000000000000000000) : ∃ r, Z.customsmade_Within.f a m = some r ∧ 0 ≤ r ∧ r < m := by
  have h2 : -m < Int.tmod a m := Int.lt_tmod_of_pos a h0
  have h3 : Int.tmod a m < m := Int.tmod_lt_of_pos a h0
  refine ⟨Int.tmod (Int.tmod a m + m) m, ?_, Int.tmod_nonneg _ (by omega), Int.tmod_lt_of_pos _ h0⟩
  simp only [Z.customsmade_Within.f]
  rw [if_neg (by omega), wrap64_id (Int.tmod a m + m) (by omega)]
theorem crash_eq (a b : List Int) (n : Int) (h : a.length + b.length ≤ 140737488351232) : Z.disk_Crash.f a b n = some (crash2 a b n) := by
  have ⟨h0, h1⟩ := mnmx n b.length
  simp only [Z.disk_Crash.f, Z.slices_Concat_byte_byte.f]
  rw [if_pos h0, if_pos h1, if_pos (by rw [List.length_take]; omega)]
  rfl
theorem cut_loop (l : List (List Int)) (hl : l.length ≤ 4000000000000000) : ∀ (d i : Nat) (acc : List (List Int)), i + d = 16 → i ≤ l.length → acc.length = i →
    Ev (fun k => Z.customslaw34_cut.l0 k l acc (i : Int)) (acc ++ ((l.drop i).take d).map (List.take 300)) := by
  intro d
  induction d with
  | zero =>
    intro i acc hi hil ha
    refine Ev.step (fun k => by rw [Z.customslaw34_cut.l0]) ?_
    simp only [List.take_zero, List.map_nil, List.append_nil]
    by_cases h : (i : Int) < (l.length : Int)
    · refine ev_pos h (Ev.step (fun k => by rw [Z.customslaw34_cut.j1]) (ev_neg (by simp only [decide_eq_true_eq]; omega) (Ev.now _)))
    · refine ev_neg h (Ev.step (fun k => by rw [Z.customslaw34_cut.j1]) (ev_neg (by simp) (Ev.now _)))
  | succ d ih =>
    intro i acc hi hil ha
    refine Ev.step (fun k => by rw [Z.customslaw34_cut.l0]) ?_
    by_cases h : (i : Int) < (l.length : Int)
    · refine ev_pos h (Ev.step (fun k => by rw [Z.customslaw34_cut.j1]) (ev_pos (by simp only [decide_eq_true_eq]; omega) (ev_pos (by omega) (ev_pos h ?_))))
      rw [wrap64_id ((i : Int) + 1) (by omega), drop_consL1 l i (by omega)]
      simp only [List.take_succ_cons, List.map_cons]
      have key : ∀ x : List Int, Z.rd_L1 l (i : Int) = Z.rd_L1 l (i : Int) → x = (Z.rd_L1 l (i : Int)).take 300 → Ev (fun k => Z.customslaw34_cut.l0 k l (acc ++ [x]) ((i : Int) + 1)) (acc ++ List.take 300 (Z.rd_L1 l (i : Int)) :: List.map (List.take 300) (List.take d (l.drop (i + 1)))) := by
        intro x _ hx
        subst hx
        have := ih (i + 1) (acc ++ [(Z.rd_L1 l (i : Int)).take 300]) (by omega) (by omega) (by simp; omega)
        rw [List.append_assoc] at this
        exact this
      by_cases h3 : ((Z.rd_L1 l (i : Int)).length : Int) > 300
      · exact ev_pos h3 (ev_pos (by omega) (ev_pos (by omega) (key _ rfl rfl)))
      · exact ev_neg h3 (ev_pos (by omega) (key _ rfl (List.take_of_length_le (by omega)).symm))
    · rw [List.drop_of_length_le (by omega)]
      simp only [List.take_nil, List.map_nil, List.append_nil]
      refine ev_neg h (Ev.step (fun k => by rw [Z.customslaw34_cut.j1]) (ev_neg (by simp) (Ev.now _)))
theorem cut_ev (l : List (List Int)) (hl : l.length ≤ 4000000000000000) : Ev (fun k => Z.customslaw34_cut.f k l) (cut2 l) := by
  have := cut_loop l hl 16 0 [] (by omega) (by omega) rfl
  simp only [List.drop_zero, List.nil_append] at this
  exact this
theorem sameRecords_self (l : List (List Int)) (hl : l.length ≤ 4000000000000000) : Ev (fun k => Z.customsref33_SameRecords.f k l l) true := by
  have loop : ∀ (d i : Nat), i + d = l.length → Ev (fun k => Z.customsref33_SameRecords.l0 k l l (i : Int)) true := by
    intro d
    induction d with
    | zero => intro i hi; exact Ev.step (fun k => by rw [Z.customsref33_SameRecords.l0]) (ev_neg (by omega) (Ev.now _))
    | succ d ih =>
      intro i hi
      refine Ev.step (fun k => by rw [Z.customsref33_SameRecords.l0]) (ev_pos (by omega) (ev_pos (by omega) (ev_pos (by omega) ?_)))
      rw [sameBytes_self, wrap64_id ((i : Int) + 1) (by omega)]
      exact ev_some (ev_pos rfl (ih (i + 1) (by omega)))
  refine Ev.congr (fun k => by rw [Z.customsref33_SameRecords.f]) ?_
  exact ev_pos rfl (loop l.length 0 (by omega))
end Go.Proofs.Ytfljnggpnndmkaa.Pure
