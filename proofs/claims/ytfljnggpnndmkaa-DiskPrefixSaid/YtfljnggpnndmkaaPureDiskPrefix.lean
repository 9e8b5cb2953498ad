/- The plain law of customslaw33.DiskPrefix. Conditions: those each theorem states. -/
import Derived.Test.YtfljnggpnndmkaaZcustomslaw33DiskPrefix
import Derived.Test.YtfljnggpnndmkaaOpn
import Derived.Test.YtfljnggpnndmkaaCutFns
import Derived.Test.YtfljnggpnndmkaaJFns
namespace Go.Proofs.Ytfljnggpnndmkaa.Pure
open Go.RowKit Go.Proofs.YtfljnggpnndmkaaW.PrintWords Go.Proofs.YtfljnggpnndmkaaW.PrintLast Go.Proofs.YtfljnggpnndmkaaW.PrintMore Go.Proofs.Ytfljnggpnndmkaa.Opening

set_option linter.unusedVariables false
set_option linter.unusedSimpArgs false
theorem awake33 : Z.customslaw33_awake.f = some true := by kernel_rfl
theorem prefix_end (x0 : List (List Int)) (x1 : List Bool) (x2 i : Int) (a b : List Int) (h : a.length + b.length ≤ 30000) : Ev (fun k => Z.customslaw33_DiskPrefix.j1 k x0 x1 x2 (a ++ b) (a.length : Int) i false a b) true := by
  refine Ev.step (fun k => by rw [Z.customslaw33_DiskPrefix.j1]) ?_
  refine ev_neg (by decide) ?_
  rw [crash_eq a b x2 (by omega)]
  refine ev_some ?_
  obtain ⟨m0, m1⟩ := mnmx x2 b.length
  simp only [crash2]
  generalize hm : (mn (mx x2 0) (b.length : Int)).toNat = m
  have hm2 : m ≤ b.length := by omega
  have hl : (b.take m).length = m := by rw [List.length_take]; omega
  rw [read_eq (a ++ b.take m) [] (by simp only [List.length_append, List.length_nil, hl]; omega), List.append_nil]
  refine ev_some ?_
  have hlen : (a ++ b.take m).length = a.length + m := by rw [List.length_append, hl]
  have e : (a ++ b).take ((((a ++ b.take m).length : Nat) : Int)).toNat = a ++ b.take m := by
    rw [hlen, show ((a.length + m : Nat) : Int).toNat = a.length + m from by omega, List.take_length_add_append]
  rw [e, hlen, List.length_append]
  refine ev_pos (by omega) (ev_pos (by omega) (ev_pos (by omega) (ev_pos rfl ?_)))
  rw [read_eq a b (by omega), awake33]
  exact ev_some (ev_pos rfl (ev_some (Ev.now _)))
theorem prefix_loop (x0 : List (List Int)) (x1 : List Bool) (x2 : Int) : ∀ (d i : Nat) (a b : List Int), i + d = 30 → a.length + b.length ≤ 1000 * i → Ev (fun k => Z.customslaw33_DiskPrefix.l0 k x0 x1 x2 (a ++ b) (a.length : Int) (i : Int) a b) true := by
  intro d
  induction d with
  | zero =>
    intro i a b hi h
    refine Ev.step (fun k => by rw [Z.customslaw33_DiskPrefix.l0]) ?_
    by_cases c : (i : Int) < (x0.length : Int)
    · refine ev_pos c ?_
      rw [decide_eq_false (show ¬ ((i : Int) < 30) from by omega)]
      exact prefix_end x0 x1 x2 i a b (by omega)
    · exact ev_neg c (prefix_end x0 x1 x2 i a b (by omega))
  | succ d ih =>
    intro i a b hi h
    refine Ev.step (fun k => by rw [Z.customslaw33_DiskPrefix.l0]) ?_
    by_cases c : (i : Int) < (x0.length : Int)
    · refine ev_pos c ?_
      rw [decide_eq_true (show (i : Int) < 30 from by omega)]
      refine Ev.step (fun k => by rw [Z.customslaw33_DiskPrefix.j1]) ?_
      refine ev_pos rfl (ev_pos (by omega) (ev_pos c ?_))
      have key : ∀ y : List Int, y.length ≤ 1000 → Ev (fun k => Z.customslaw33_DiskPrefix.j2 k x0 x1 x2 (a ++ b) (a.length : Int) (i : Int) y a b) true := by
        intro y hy
        refine Ev.step (fun k => by rw [Z.customslaw33_DiskPrefix.j2]) ?_
        rw [write_eq a b y (by omega) (by omega) (by omega), if_neg (by omega)]
        refine ev_some (ev_pos rfl (ev_pos (by rw [List.length_append]; omega) (ev_some ?_)))
        have go1 : Ev (fun k => Z.customslaw33_DiskPrefix.l0 k x0 x1 x2 (a ++ b ++ y) (a.length : Int) ((i : Int) + 1) a (b ++ y)) true := by
          have := ih (i + 1) a (b ++ y) (by omega) (by rw [List.length_append]; omega)
          rw [List.append_assoc]
          exact this
        rw [wrap64_id ((i : Int) + 1) (by omega)]
        by_cases c2 : (i : Int) < (x1.length : Int)
        · refine ev_pos c2 (ev_pos (by omega) ?_)
          by_cases c3 : rdOf false x1 (i : Int) = true
          · refine ev_pos c3 ?_
            dsimp only
            rw [sync_eq a (b ++ y) (by rw [List.length_append]; omega)]
            refine ev_some ?_
            have := ih (i + 1) (a ++ (b ++ y)) [] (by omega) (by simp only [List.length_append, List.length_nil]; omega)
            rw [List.append_nil] at this
            rw [List.append_assoc]
            exact this
          · exact ev_neg c3 go1
        · exact ev_neg c2 go1
      by_cases c4 : ((Z.rd_L1 x0 (i : Int)).length : Int) > 1000
      · exact ev_pos c4 (ev_pos (by omega) (key _ (by rw [List.length_take]; omega)))
      · exact ev_neg c4 (key _ (by omega))
    · exact ev_neg c (prefix_end x0 x1 x2 i a b (by omega))
theorem DiskPrefix (l0 : (List (List Int))) (l1 : (List Bool)) (a2 : Int) (w0 : (l0.length * 24 ≤ 140737488351232 ∧ ∀ z0 ∈ l0, (z0.length * 1 ≤ 140737488351232 ∧ ∀ z1 ∈ z0, (Lit.int .u8 z1).wf = true))) (w1 : (l1.length * 1 ≤ 140737488351232 ∧ ∀ z0 ∈ l1, True)) (w2 : (Lit.int .i64 a2).wf = true) : ∃ k, Z.customslaw33_DiskPrefix.f k l0 l1 a2 = some true := by
  refine Ev.rounds (Ev.congr (fun k => by rw [Z.customslaw33_DiskPrefix.f]) ?_)
  exact prefix_loop l0 l1 a2 30 0 [] [] (by omega) (by simp)
end Go.Proofs.Ytfljnggpnndmkaa.Pure
