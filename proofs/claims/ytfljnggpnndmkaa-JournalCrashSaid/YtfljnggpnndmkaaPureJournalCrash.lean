/- The plain law of customslaw34.JournalCrash. Conditions: those each theorem states. -/
import Derived.Test.YtfljnggpnndmkaaZcustomslaw34JournalCrash
import Derived.Test.YtfljnggpnndmkaaOpn
import Derived.Test.YtfljnggpnndmkaaCutFns
namespace Go.Proofs.Ytfljnggpnndmkaa.Pure
open Go.RowKit Go.Proofs.YtfljnggpnndmkaaW.PrintWords Go.Proofs.YtfljnggpnndmkaaW.PrintLast Go.Proofs.YtfljnggpnndmkaaW.PrintMore Go.Proofs.Ytfljnggpnndmkaa.Opening

set_option linter.unusedVariables false
set_option linter.unusedSimpArgs false
theorem take_encAll : ∀ (l : List (List Int)) (n : Nat), (∀ p ∈ l, p.length ≤ 300) → ∃ j rest, j ≤ l.length ∧ (encAll (recs l)).take n = encAll (recs (l.take j)) ++ rest ∧ frameAt rest = none := by
  intro l
  induction l with
  | nil => intro n _; exact ⟨0, [], by simp, by simp [recs, encAll], frame_nil⟩
  | cons p l ih =>
    intro n hl
    have hp := hl p (List.mem_cons_self)
    have he := enc_length 1 p
    by_cases hn : n < p.length + 9
    · refine ⟨0, (enc 1 p).take n, by simp, ?_, frame_torn 1 p n (by omega) hn⟩
      rw [recs_cons, List.take_append_of_le_length (by omega)]
      simp [recs, encAll]
    · obtain ⟨j, rest, h1, h2, h3⟩ := ih (n - (p.length + 9)) (fun q hq => hl q (List.mem_cons_of_mem _ hq))
      refine ⟨j + 1, rest, by simp; omega, ?_, h3⟩
      rw [recs_cons, List.take_append, List.take_of_length_le (by omega), he, h2, List.take_succ_cons, recs_cons, List.append_assoc]
theorem crash_loop0 (x0 x1 : List (List Int)) (a : Int) (g0 : x0.length ≤ 16 ∧ ∀ p ∈ x0, IsBytes p ∧ p.length ≤ 300) (r : Bool) : ∀ (d i : Nat) (st : List Int), i + d = x0.length → st.length ≤ 309 * i →
    Ev (fun k => Z.customslaw34_JournalCrash.l0 k x0 x1 a (x0.length : Int) (st ++ encAll (recs (x0.drop i))) []) r → Ev (fun k => Z.customslaw34_JournalCrash.l0 k x0 x1 a (i : Int) st []) r := by
  intro d
  induction d with
  | zero =>
    intro i st hi hs h
    rw [List.drop_of_length_le (by omega)] at h
    simp only [recs, List.map_nil, encAll, List.append_nil] at h
    rw [show i = x0.length by omega]
    exact h
  | succ d ih =>
    intro i st hi hs h
    have hm := g0.2 _ (rdL1_mem x0 i (by omega))
    refine Ev.step (fun k => by rw [Z.customslaw34_JournalCrash.l0]) (ev_pos (by omega) (ev_pos (by omega) ?_))
    refine Ev.bind (append_ev st [] _ hm.1 (by omega) (by simp only [List.length_nil]; omega)) ?_
    rw [wrap64_id ((i : Int) + 1) (by omega)]
    rw [drop_consL1 x0 i (by omega), recs_cons, ← List.append_assoc] at h
    exact ev_pos rfl (ih (i + 1) (st ++ enc 1 (Z.rd_L1 x0 (i : Int))) (by omega) (by rw [List.length_append, enc_length]; omega) h)
theorem crash_loop1 (x0 x1 : List (List Int)) (a : Int) (g1 : x1.length ≤ 16 ∧ ∀ p ∈ x1, IsBytes p ∧ p.length ≤ 300) (r : Bool) (st : List Int) (hst : st.length ≤ 10000) : ∀ (d i : Nat) (pe : List Int), i + d = x1.length → pe.length ≤ 309 * i →
    Ev (fun k => Z.customslaw34_JournalCrash.l1 k x0 x1 a (x1.length : Int) st (pe ++ encAll (recs (x1.drop i)))) r → Ev (fun k => Z.customslaw34_JournalCrash.l1 k x0 x1 a (i : Int) st pe) r := by
  intro d
  induction d with
  | zero =>
    intro i pe hi hs h
    rw [List.drop_of_length_le (by omega)] at h
    simp only [recs, List.map_nil, encAll, List.append_nil] at h
    rw [show i = x1.length by omega]
    exact h
  | succ d ih =>
    intro i pe hi hs h
    have hm := g1.2 _ (rdL1_mem x1 i (by omega))
    refine Ev.step (fun k => by rw [Z.customslaw34_JournalCrash.l1]) (ev_pos (by omega) (ev_pos (by omega) ?_))
    refine Ev.bind (put_ev st pe 1 _ (.inl rfl) hm.1 (by omega) (by omega)) ?_
    rw [wrap64_id ((i : Int) + 1) (by omega)]
    rw [drop_consL1 x1 i (by omega), recs_cons, ← List.append_assoc] at h
    exact ev_pos rfl (ih (i + 1) (pe ++ enc 1 (Z.rd_L1 x1 (i : Int))) (by omega) (by rw [List.length_append, enc_length]; omega) h)
theorem crash_last (x0 x1 : List (List Int)) (a : Int) (g0 : x0.length ≤ 16 ∧ ∀ p ∈ x0, IsBytes p ∧ p.length ≤ 300) (g1 : x1.length ≤ 16 ∧ ∀ p ∈ x1, IsBytes p ∧ p.length ≤ 300) (ha : -9223372036854775808 ≤ a ∧ a ≤ 9223372036854775807) :
    Ev (fun k => Z.customslaw34_JournalCrash.l1 k x0 x1 a (x1.length : Int) (encAll (recs x0)) (encAll (recs x1))) true := by
  have r0 := encRecs_len x0 (fun p hp => (g0.2 p hp).2)
  have r1 := encRecs_len x1 (fun p hp => (g1.2 p hp).2)
  obtain ⟨q, hq, q0, q1⟩ := within_eq a 5000 ha (by omega) (by omega)
  obtain ⟨j, rest, hj, ht, hr⟩ := take_encAll x1 (mn (mx q 0) ((encAll (recs x1)).length : Int)).toNat (fun p hp => (g1.2 p hp).2)
  have ga : ∀ p ∈ x0 ++ x1.take j, IsBytes p ∧ p.length ≤ 300 := by
    intro p hp
    rcases List.mem_append.1 hp with hp | hp
    · exact g0.2 p hp
    · exact g1.2 p (List.mem_of_mem_take hp)
  have gr : ∀ f ∈ recs (x0 ++ x1.take j), Good f := recs_good _ (fun p hp => ⟨(ga p hp).1, by have := (ga p hp).2; omega⟩)
  have hra : (encAll (recs (x0 ++ x1.take j))).length ≤ 309 * (x0 ++ x1.take j).length := encRecs_len _ (fun p hp => (ga p hp).2)
  have hjl : (x0 ++ x1.take j).length ≤ 32 := by rw [List.length_append, List.length_take]; omega
  have hcr : crash2 (encAll (recs x0)) (encAll (recs x1)) q = (encAll (recs (x0 ++ x1.take j)) ++ rest, []) := by
    unfold crash2
    rw [ht]
    have : encAll (recs (x0 ++ x1.take j)) = encAll (recs x0) ++ encAll (recs (x1.take j)) := by
      rw [← encAll_append]
      simp [recs]
    rw [this, List.append_assoc]
  have hb1 : IsBytes (encAll (recs x1)) := encAll_bytes _ (recs_good _ (fun p hp => ⟨(g1.2 p hp).1, by have := (g1.2 p hp).2; omega⟩))
  have hrb : IsBytes rest := by
    have h := isBytes_take hb1 (mn (mx q 0) ((encAll (recs x1)).length : Int)).toNat
    rw [ht] at h
    exact fun x hx => h x (List.mem_append_right _ hx)
  have hrl : rest.length ≤ 10000 := by
    have h := congrArg List.length ht
    rw [List.length_take, List.length_append] at h
    omega
  have hab := encAll_bytes _ gr
  refine Ev.step (fun k => by rw [Z.customslaw34_JournalCrash.l1]) (ev_neg (by omega) ?_)
  refine ev_some ?_
  rw [List.nil_append, List.length_nil]
  refine ev_pos (by omega) (ev_some (ev_pos (by omega) (ev_some ?_)))
  rw [hq]
  refine ev_some ?_
  rw [crash_eq _ _ _ (by omega)]
  refine ev_some ?_
  rw [hcr]
  refine Ev.bind (open_ev (encAll (recs (x0 ++ x1.take j)) ++ rest) [] (isBytes_append (isBytes_append hab hrb) (fun x hx => by cases hx)) (by simp only [List.length_append, List.length_nil]; omega)) ?_
  have o1 : opened (encAll (recs (x0 ++ x1.take j)) ++ rest ++ []) = ([], false, x0 ++ x1.take j) := by
    rw [List.append_nil, opened_all _ rest hr gr, gather_recs]
    simp
  have s1 : (encAll (recs (x0 ++ x1.take j)) ++ rest ++ []).take (scanF (encAll (recs (x0 ++ x1.take j)) ++ rest ++ []).length (encAll (recs (x0 ++ x1.take j)) ++ rest ++ []) 0).2 = encAll (recs (x0 ++ x1.take j)) := by
    rw [List.append_nil, scan_all _ rest hr gr]
    exact List.take_left' rfl
  rw [s1]
  simp only [o1]
  have hx : (x0 ++ x1).take (x0 ++ x1.take j).length = x0 ++ x1.take j := by
    rw [List.length_append, List.take_length_add_append, List.length_take, Nat.min_eq_left hj]
  refine ev_neg (by decide) (ev_neg (by simp only [List.length_append]; omega) (ev_neg (by simp only [List.length_append, List.length_take]; omega) (ev_pos (by omega) (ev_pos (by simp only [List.length_append, List.length_take]; omega) ?_))))
  rw [Int.toNat_natCast, hx]
  refine Ev.bind (sameRecords_self (x0 ++ x1.take j) (by omega)) ?_
  generalize x0 ++ x1.take j = y at *
  have hmore : IsBytes [109, 111, 114, 101] := by
    intro x hx
    simp only [List.mem_cons, List.not_mem_nil, or_false] at hx
    omega
  refine Ev.step (fun k => by rw [Z.customslaw34_JournalCrash.j2]) (ev_neg (by decide) (ev_some ?_))
  refine Ev.bind (append_ev _ [] _ hmore (by simp) (by simp only [List.length_nil, List.length_cons]; omega)) ?_
  have e1 : encAll (recs y) ++ ([] ++ enc 1 [109, 111, 114, 101]) = encAll (recs (y ++ [[109, 111, 114, 101]])) := by
    have : recs (y ++ [[109, 111, 114, 101]]) = recs y ++ recs [[109, 111, 114, 101]] := by simp [recs]
    rw [this, encAll_append, recs_cons]
    simp [recs, encAll]
  have gr2 : ∀ f ∈ recs (y ++ [[109, 111, 114, 101]]), Good f := recs_good _ (fun p hp => by
    rcases List.mem_append.1 hp with hp | hp
    · exact ⟨(ga p hp).1, by have := (ga p hp).2; omega⟩
    · rcases List.mem_singleton.1 hp with rfl
      exact ⟨hmore, by simp⟩)
  rw [e1]
  have hl2 : (encAll (recs (y ++ [[109, 111, 114, 101]]))).length ≤ 20000 := by
    have := encRecs_len (y ++ [[109, 111, 114, 101]]) (fun p hp => by
      rcases List.mem_append.1 hp with hp | hp
      · exact (ga p hp).2
      · rcases List.mem_singleton.1 hp with rfl
        simp)
    simp only [List.length_append, List.length_cons, List.length_nil] at this
    omega
  refine Ev.bind (open_ev _ [] (isBytes_append (encAll_bytes _ gr2) (fun x hx => by cases hx)) (by simp only [List.length_nil]; omega)) ?_
  have o2 : opened (encAll (recs (y ++ [[109, 111, 114, 101]])) ++ []) = ([], false, y ++ [[109, 111, 114, 101]]) := by
    rw [opened_all _ [] frame_nil gr2, gather_recs]
    simp
  simp only [o2]
  refine ev_pos (by trivial) (ev_some ?_)
  rw [List.nil_append]
  refine ev_pos (by simp only [List.length_nil]; omega) (ev_some (ev_some (ev_pos (by omega) ?_)))
  refine Ev.bind (sameRecords_self (y ++ [[109, 111, 114, 101]]) (by simp; omega)) (ev_pos (by trivial) (Ev.bind awake34 (Ev.now _)))
theorem JournalCrash (l0 : (List (List Int))) (l1 : (List (List Int))) (a2 : Int) (w0 : (l0.length * 24 ≤ 140737488351232 ∧ ∀ z0 ∈ l0, (z0.length * 1 ≤ 140737488351232 ∧ ∀ z1 ∈ z0, (Lit.int .u8 z1).wf = true))) (w1 : (l1.length * 24 ≤ 140737488351232 ∧ ∀ z0 ∈ l1, (z0.length * 1 ≤ 140737488351232 ∧ ∀ z1 ∈ z0, (Lit.int .u8 z1).wf = true))) (w2 : (Lit.int .i64 a2).wf = true) : ∃ k, Z.customslaw34_JournalCrash.f k l0 l1 a2 = some true := by
  have g0 := cut2_good l0 (fun p hp => isBytes_of (w0.2 p hp).2)
  have g1 := cut2_good l1 (fun p hp => isBytes_of (w1.2 p hp).2)
  refine Ev.rounds (Ev.congr (fun k => by rw [Z.customslaw34_JournalCrash.f]) ?_)
  refine Ev.bind (cut_ev l0 (by omega)) (Ev.bind (cut_ev l1 (by omega)) ?_)
  have r0 := encRecs_len (cut2 l0) (fun p hp => (g0.2 p hp).2)
  refine crash_loop0 (cut2 l0) (cut2 l1) a2 g0 _ (cut2 l0).length 0 [] (by omega) (by simp) ?_
  simp only [List.drop_zero, List.nil_append]
  refine Ev.step (fun k => by rw [Z.customslaw34_JournalCrash.l0]) (ev_neg (by omega) ?_)
  refine crash_loop1 (cut2 l0) (cut2 l1) a2 g1 _ _ (by omega) (cut2 l1).length 0 [] (by omega) (by simp) ?_
  simp only [List.drop_zero, List.nil_append]
  exact crash_last (cut2 l0) (cut2 l1) a2 g0 g1 (i64_of w2)
end Go.Proofs.Ytfljnggpnndmkaa.Pure
