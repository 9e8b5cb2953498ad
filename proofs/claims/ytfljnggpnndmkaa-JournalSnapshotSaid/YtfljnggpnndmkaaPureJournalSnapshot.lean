/- The plain law of customslaw34.JournalSnapshot. Conditions: those each theorem states. -/
import Derived.Test.YtfljnggpnndmkaaZcustomslaw34JournalSnapshot
import Derived.Test.YtfljnggpnndmkaaOpn
import Derived.Test.YtfljnggpnndmkaaCutFns
namespace Go.Proofs.Ytfljnggpnndmkaa.Pure
open Go.RowKit Go.Proofs.YtfljnggpnndmkaaW.PrintWords Go.Proofs.YtfljnggpnndmkaaW.PrintLast Go.Proofs.YtfljnggpnndmkaaW.PrintMore Go.Proofs.Ytfljnggpnndmkaa.Opening

set_option linter.unusedVariables false
set_option linter.unusedSimpArgs false
theorem snap_loop0 (x0 x1 : List (List Int)) (l2 l3 : List Int) (a4 : Int) (g0 : x0.length ≤ 16 ∧ ∀ p ∈ x0, IsBytes p ∧ p.length ≤ 300) (r : Bool) : ∀ (d i : Nat) (st : List Int), i + d = x0.length → st.length ≤ 309 * i →
    Ev (fun k => Z.customslaw34_JournalSnapshot.l0 k x0 x1 l2 l3 a4 (x0.length : Int) (st ++ encAll (recs (x0.drop i))) []) r → Ev (fun k => Z.customslaw34_JournalSnapshot.l0 k x0 x1 l2 l3 a4 (i : Int) st []) r := by
  intro d
  induction d with
  | zero =>
    intro i st hi hs h
    rw [List.drop_of_length_le (by omega)] at h
    simp only [recs, List.map_nil, encAll, List.append_nil] at h
    rw [show i = x0.length by omega]
    exact h
  | succ d ih =>
    intro i st hi hs h
    have hm := g0.2 _ (rdL1_mem x0 i (by omega))
    refine Ev.step (fun k => by rw [Z.customslaw34_JournalSnapshot.l0]) (ev_pos (by omega) (ev_pos (by omega) ?_))
    refine Ev.bind (append_ev st [] _ hm.1 (by omega) (by simp only [List.length_nil]; omega)) ?_
    rw [wrap64_id ((i : Int) + 1) (by omega)]
    rw [drop_consL1 x0 i (by omega), recs_cons, ← List.append_assoc] at h
    exact ih (i + 1) (st ++ enc 1 (Z.rd_L1 x0 (i : Int))) (by omega) (by rw [List.length_append, enc_length]; omega) h
theorem snap_loop1 (x1 : List (List Int)) (l2 l3 : List Int) (a4 e : Int) (g1 : x1.length ≤ 16 ∧ ∀ p ∈ x1, IsBytes p ∧ p.length ≤ 300) (r : Bool) : ∀ (d i : Nat) (st : List Int), i + d = x1.length → st.length ≤ 10000 + 309 * i →
    Ev (fun k => Z.customslaw34_JournalSnapshot.l1 k x1 l2 l3 a4 e (x1.length : Int) (st ++ encAll (recs (x1.drop i))) []) r → Ev (fun k => Z.customslaw34_JournalSnapshot.l1 k x1 l2 l3 a4 e (i : Int) st []) r := by
  intro d
  induction d with
  | zero =>
    intro i st hi hs h
    rw [List.drop_of_length_le (by omega)] at h
    simp only [recs, List.map_nil, encAll, List.append_nil] at h
    rw [show i = x1.length by omega]
    exact h
  | succ d ih =>
    intro i st hi hs h
    have hm := g1.2 _ (rdL1_mem x1 i (by omega))
    refine Ev.step (fun k => by rw [Z.customslaw34_JournalSnapshot.l1]) (ev_pos (by omega) (ev_pos (by omega) ?_))
    refine Ev.bind (append_ev st [] _ hm.1 (by omega) (by simp only [List.length_nil]; omega)) ?_
    rw [wrap64_id ((i : Int) + 1) (by omega)]
    rw [drop_consL1 x1 i (by omega), recs_cons, ← List.append_assoc] at h
    exact ih (i + 1) (st ++ enc 1 (Z.rd_L1 x1 (i : Int))) (by omega) (by rw [List.length_append, enc_length]; omega) h
theorem snap_last (x0 x1 : List (List Int)) (l2 l3 : List Int) (a4 : Int) (g0 : x0.length ≤ 16 ∧ ∀ p ∈ x0, IsBytes p ∧ p.length ≤ 300) (g1 : x1.length ≤ 16 ∧ ∀ p ∈ x1, IsBytes p ∧ p.length ≤ 300) (b2 : IsBytes l2) (b3 : IsBytes l3)
    (h2 : l2.length ≤ 200) (h3 : l3.length ≤ 200) (h4 : -9223372036854775808 ≤ a4 ∧ a4 ≤ 9223372036854775807) : Ev (fun k => Z.customslaw34_JournalSnapshot.l0 k x0 x1 l2 l3 a4 (x0.length : Int) (encAll (recs x0)) []) true := by
  have r0 := encRecs_len x0 (fun p hp => (g0.2 p hp).2)
  have r1 := encRecs_len x1 (fun p hp => (g1.2 p hp).2)
  have e2 := enc_length 2 l2
  have e3 := enc_length 2 l3
  refine Ev.step (fun k => by rw [Z.customslaw34_JournalSnapshot.l0]) (ev_neg (by omega) ?_)
  refine Ev.bind (put_ev _ [] 2 l2 (.inr rfl) b2 (by omega) (by simp only [List.length_nil]; omega)) ?_
  dsimp only
  rw [sync_eq _ _ (by simp only [List.nil_append]; omega)]
  refine ev_some ?_
  refine snap_loop1 x1 l2 l3 a4 0 g1 _ x1.length 0 _ (by omega) (by simp only [List.nil_append, List.length_append]; omega) ?_
  simp only [List.drop_zero, List.nil_append]
  have hS : encAll (recs x0) ++ enc 2 l2 ++ encAll (recs x1) = encAll (recs x0 ++ (⟨2, l2⟩ :: recs x1)) := by
    rw [encAll_append, List.append_assoc]; rfl
  have hg : ∀ f ∈ recs x0 ++ (⟨2, l2⟩ :: recs x1), Good f := by
    intro f hf
    rcases List.mem_append.1 hf with hf | hf
    · exact recs_good x0 (fun p hp => ⟨(g0.2 p hp).1, by have := (g0.2 p hp).2; omega⟩) f hf
    · rcases List.mem_cons.1 hf with rfl | hf
      · exact ⟨.inr rfl, b2, by simp only; omega⟩
      · exact recs_good x1 (fun p hp => ⟨(g1.2 p hp).1, by have := (g1.2 p hp).2; omega⟩) f hf
  have hSl : (encAll (recs x0 ++ (⟨2, l2⟩ :: recs x1))).length ≤ 20000 := by
    rw [← hS]; simp only [List.length_append]; omega
  have hSb : IsBytes (encAll (recs x0 ++ (⟨2, l2⟩ :: recs x1))) := encAll_bytes _ hg
  rw [hS]
  have hga : gather (recs x0 ++ (⟨2, l2⟩ :: recs x1)) ([], false, []) = (l2, true, x1) := by
    rw [gather_append, gather_recs, gather, if_pos rfl, gather_recs]
    simp
  have hga2 : gather ((recs x0 ++ (⟨2, l2⟩ :: recs x1)) ++ [⟨2, l3⟩]) ([], false, []) = (l3, true, []) := by
    rw [gather_append, hga, gather, if_pos rfl, gather]
  have hg2 : ∀ f ∈ (recs x0 ++ (⟨2, l2⟩ :: recs x1)) ++ [⟨2, l3⟩], Good f := by
    intro f hf
    rcases List.mem_append.1 hf with hf | hf
    · exact hg f hf
    · rcases List.mem_singleton.1 hf with rfl
      exact ⟨.inr rfl, b3, by simp only; omega⟩
  generalize recs x0 ++ (⟨2, l2⟩ :: recs x1) = fs at hSl hSb hg hga hg2 hga2
  have b3e := enc_bytes 2 l3 (.inr rfl) b3 (by omega)
  refine Ev.step (fun k => by rw [Z.customslaw34_JournalSnapshot.l1]) (ev_neg (by omega) ?_)
  refine Ev.bind (put_ev _ [] 2 l3 (.inr rfl) b3 (by omega) (by simp only [List.length_nil]; omega)) ?_
  dsimp only
  obtain ⟨q, hq, q0, q1⟩ := within_eq a4 ((l3.length : Int) + 9) h4 (by omega) (by omega)
  rw [wrap64_id ((l3.length : Int) + 9) (by omega), hq]
  refine ev_some ?_
  rw [crash_eq _ _ _ (by rw [List.length_append]; simp only [List.length_nil]; omega)]
  refine ev_some ?_
  have hc : (crash2 (encAll fs) ([] ++ enc 2 l3) q) = (encAll fs ++ (enc 2 l3).take q.toNat, []) := by
    unfold crash2
    rw [List.nil_append, e3]
    have : mn (mx q 0) ((l3.length + 9 : Nat) : Int) = q := by
      unfold mn mx
      rw [if_neg (by omega), if_neg (by omega)]
    rw [this]
  rw [hc]
  have ht : frameAt ((enc 2 l3).take q.toNat) = none := frame_torn 2 l3 q.toNat (by omega) (by omega)
  refine Ev.bind (open_ev (encAll fs ++ (enc 2 l3).take q.toNat) [] (isBytes_append (isBytes_append hSb (isBytes_take b3e _)) (fun x hx => by cases hx)) (by simp only [List.length_append, List.length_take, List.length_nil]; omega)) ?_
  rw [sync_eq _ _ (by simp only [List.nil_append]; omega)]
  refine ev_some ?_
  refine Ev.bind (open_ev (encAll fs ++ ([] ++ enc 2 l3)) [] (isBytes_append (isBytes_append hSb (isBytes_append (fun x hx => by cases hx) b3e)) (fun x hx => by cases hx)) (by simp only [List.length_append, List.length_nil]; omega)) ?_
  have o1 : opened (encAll fs ++ (enc 2 l3).take q.toNat ++ []) = (l2, true, x1) := by
    rw [List.append_nil, opened_all fs _ ht hg, hga]
  have o2 : opened (encAll fs ++ ([] ++ enc 2 l3) ++ []) = (l3, true, []) := by
    have e : encAll fs ++ ([] ++ enc 2 l3) ++ [] = encAll (fs ++ [⟨2, l3⟩]) ++ [] := by
      rw [encAll_append]
      simp only [encAll, encF, List.append_nil, List.nil_append]
    rw [e, opened_all _ _ frame_nil hg2, hga2]
  simp only [o1, o2]
  refine ev_pos (by trivial) (ev_pos (by trivial) (ev_pos (by trivial) ?_))
  rw [sameBytes_self, sameBytes_self]
  refine ev_some (ev_pos (by trivial) (Ev.bind (sameRecords_self x1 (by omega)) (ev_pos (by trivial) (ev_pos (by trivial) (ev_some (ev_pos (by trivial) (ev_pos (by trivial) (Ev.bind awake34 (Ev.now _)))))))))
theorem JournalSnapshot (l0 : (List (List Int))) (l1 : (List (List Int))) (l2 : (List Int)) (l3 : (List Int)) (a4 : Int) (w0 : (l0.length * 24 ≤ 140737488351232 ∧ ∀ z0 ∈ l0, (z0.length * 1 ≤ 140737488351232 ∧ ∀ z1 ∈ z0, (Lit.int .u8 z1).wf = true))) (w1 : (l1.length * 24 ≤ 140737488351232 ∧ ∀ z0 ∈ l1, (z0.length * 1 ≤ 140737488351232 ∧ ∀ z1 ∈ z0, (Lit.int .u8 z1).wf = true))) (w2 : (l2.length * 1 ≤ 140737488351232 ∧ ∀ z0 ∈ l2, (Lit.int .u8 z0).wf = true)) (w3 : (l3.length * 1 ≤ 140737488351232 ∧ ∀ z0 ∈ l3, (Lit.int .u8 z0).wf = true)) (w4 : (Lit.int .i64 a4).wf = true) : ∃ k, Z.customslaw34_JournalSnapshot.f k l0 l1 l2 l3 a4 = some true := by
  have g0 := cut2_good l0 (fun p hp => isBytes_of (w0.2 p hp).2)
  have g1 := cut2_good l1 (fun p hp => isBytes_of (w1.2 p hp).2)
  have b2 := isBytes_of w2.2
  have b3 := isBytes_of w3.2
  refine Ev.rounds (Ev.congr (fun k => by rw [Z.customslaw34_JournalSnapshot.f]) ?_)
  refine Ev.bind (cut_ev l0 (by omega)) (Ev.bind (cut_ev l1 (by omega)) ?_)
  have over : ∀ {x : Bool}, x = true → Ev (fun k => Z.customslaw34_JournalSnapshot.j0 k (cut2 l0) (cut2 l1) l2 l3 a4 x) true := by
    intro x hx
    refine Ev.step (fun k => by rw [Z.customslaw34_JournalSnapshot.j0]) (ev_pos hx (Ev.bind awake34 (Ev.now _)))
  by_cases h2 : (l2.length : Int) > 200
  · exact ev_pos h2 (over rfl)
  · refine ev_neg h2 ?_
    by_cases h3 : (l3.length : Int) > 200
    · exact over (by simpa using h3)
    · refine Ev.step (fun k => by rw [Z.customslaw34_JournalSnapshot.j0]) (ev_neg (by simpa using h3) ?_)
      have r0 := encRecs_len (cut2 l0) (fun p hp => (g0.2 p hp).2)
      refine snap_loop0 (cut2 l0) (cut2 l1) l2 l3 a4 g0 _ (cut2 l0).length 0 [] (by omega) (by simp) ?_
      simp only [List.drop_zero, List.nil_append]
      exact snap_last (cut2 l0) (cut2 l1) l2 l3 a4 g0 g1 b2 b3 (by omega) (by omega) (i64_of w4)
end Go.Proofs.Ytfljnggpnndmkaa.Pure
