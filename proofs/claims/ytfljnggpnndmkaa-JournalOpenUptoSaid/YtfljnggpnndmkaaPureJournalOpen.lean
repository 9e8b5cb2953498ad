/- The plain law of customslaw34.JournalOpen. Conditions: those each theorem states. -/
import Derived.Test.YtfljnggpnndmkaaZcustomslaw34JournalOpen
import Derived.Test.YtfljnggpnndmkaaOpn
import Derived.Test.YtfljnggpnndmkaaCutFns
import Derived.Test.YtfljnggpnndmkaaRefScan
import Derived.Test.YtfljnggpnndmkaaRefDisk
namespace Go.Proofs.Ytfljnggpnndmkaa.Pure
open Go.RowKit Go.Proofs.YtfljnggpnndmkaaW.PrintWords Go.Proofs.YtfljnggpnndmkaaW.PrintLast Go.Proofs.YtfljnggpnndmkaaW.PrintMore Go.Proofs.Ytfljnggpnndmkaa.Opening

set_option linter.unusedVariables false
set_option linter.unusedSimpArgs false
theorem ref_put_ev (st pe : List Int) (kd : Int) (p : List Int) (hp : IsBytes p) (hs : st.length + pe.length ≤ 140000000000000) : ∃ x : List Int × List Int × Int, Ev (fun k => Z.customsref33_Put.f k st pe kd p) x ∧ Ev (fun k => Z.journal_Put.f k st pe kd p) x ∧
    (IsBytes st → IsBytes pe → IsBytes x.1 ∧ IsBytes x.2.1) ∧ x.1.length + x.2.1.length ≤ 1000000 := by
  have he : IsBytes (encR kd p).1 ∧ (encR kd p).1.length ≤ 60009 := by
    unfold encR
    split
    · rename_i hk
      split
      · exact ⟨fun x hx => (by cases hx), by simp⟩
      · exact ⟨enc_bytes kd p hk hp (by omega), by rw [enc_length]; omega⟩
    · exact ⟨fun x hx => (by cases hx), by simp⟩
  refine ⟨if (encR kd p).2 = 0 then (if st.length + pe.length + (encR kd p).1.length > 1000000 then ([], [], 8) else (st, pe ++ (encR kd p).1, 0)) else ([], [], (encR kd p).2), ?_, ?_, ?_, ?_⟩
  · refine Ev.congr (fun k => by rw [Z.customsref33_Put.f]) ?_
    refine Ev.bind (ref_encode_ev kd p hp) ?_
    by_cases h : (encR kd p).2 = 0
    · refine ev_pos h ?_
      rw [if_pos h]
      rw [ref_write_eq st pe _ (by omega) (by omega) (by omega)]
      exact ev_some (Ev.now _)
    · refine ev_neg h ?_
      rw [if_neg h]
      exact Ev.now _
  · refine Ev.congr (fun k => by rw [Z.journal_Put.f]) ?_
    refine Ev.bind (encode_ev kd p hp) ?_
    by_cases h : (encR kd p).2 = 0
    · refine ev_pos h ?_
      rw [if_pos h]
      rw [write_eq st pe _ (by omega) (by omega) (by omega)]
      exact ev_some (Ev.now _)
    · refine ev_neg h ?_
      rw [if_neg h]
      exact Ev.now _
  · intro h1 h2
    split
    · split
      · exact ⟨fun x hx => (by cases hx), fun x hx => (by cases hx)⟩
      · exact ⟨h1, isBytes_append h2 he.1⟩
    · exact ⟨fun x hx => (by cases hx), fun x hx => (by cases hx)⟩
  · split
    · split
      · simp
      · simp only [List.length_append]; omega
    · simp
theorem ref_append_ev (st pe p : List Int) (hp : IsBytes p) (hs : st.length + pe.length ≤ 140000000000000) : ∃ x : List Int × List Int × Int, Ev (fun k => Z.customsref33_Append.f k st pe p) x ∧ Ev (fun k => Z.journal_Append.f k st pe p) x := by
  obtain ⟨x, h1, h2, _, h4⟩ := ref_put_ev st pe 1 p hp hs
  refine ⟨if x.2.2 = 0 then (x.1 ++ x.2.1, [], 0) else ([], [], x.2.2), ?_, ?_⟩
  · refine Ev.congr (fun k => by rw [Z.customsref33_Append.f]) (Ev.bind h1 ?_)
    by_cases h : x.2.2 = 0
    · refine ev_pos h ?_
      rw [if_pos h]
      rw [ref_sync_eq _ _ (by omega)]
      exact ev_some (Ev.now _)
    · refine ev_neg h ?_
      rw [if_neg h]
      exact Ev.now _
  · refine Ev.congr (fun k => by rw [Z.journal_Append.f]) (Ev.bind h2 ?_)
    by_cases h : x.2.2 = 0
    · refine ev_pos h ?_
      rw [if_pos h]
      rw [sync_eq _ _ (by omega)]
      exact ev_some (Ev.now _)
    · refine ev_neg h ?_
      rw [if_neg h]
      exact Ev.now _
theorem ref_open_loop (fs : List Z.S57) (hl : fs.length ≤ 4000000000000) (d1 d2 : List Int) : ∀ (d i : Nat) (r : List Int × Bool × List (List Int)), i + d = fs.length → r.2.2.length ≤ i →
    Ev (fun k => Z.customsref33_Open.l0 k fs r.1 r.2.1 r.2.2 (i : Int) d1 d2) (d1, d2, (gather (fs.drop i) r).1, (gather (fs.drop i) r).2.1, (gather (fs.drop i) r).2.2) := by
  intro d
  induction d with
  | zero =>
    intro i r hi hr
    refine Ev.step (fun k => by rw [Z.customsref33_Open.l0]) ?_
    rw [List.drop_of_length_le (by omega)]
    exact ev_neg (by omega) (Ev.now _)
  | succ d ih =>
    intro i r hi hr
    refine Ev.step (fun k => by rw [Z.customsref33_Open.l0]) ?_
    rw [wrap64_id ((i : Int) + 1) (by omega), drop_cons57 fs i (by omega)]
    refine ev_pos (by omega) (ev_pos (by omega) ?_)
    by_cases h2 : (Z.rd_T57 fs (i : Int)).f0 = 2
    · refine ev_pos h2 ?_
      rw [gather, if_pos h2]
      exact ih (i + 1) ((Z.rd_T57 fs (i : Int)).f1, true, []) (by omega) (by simp)
    · refine ev_neg h2 (ev_pos (by omega) ?_)
      rw [gather, if_neg h2]
      exact ih (i + 1) (r.1, r.2.1, r.2.2 ++ [(Z.rd_T57 fs (i : Int)).f1]) (by omega) (by simp; omega)
theorem ref_open_ev (st pe : List Int) (hb : IsBytes (st ++ pe)) (hl : st.length + pe.length ≤ 4000000000000) :
    Ev (fun k => Z.customsref33_Open.f k st pe) ((st ++ pe).take (scanF (st ++ pe).length (st ++ pe) 0).2, [], (opened (st ++ pe)).1, (opened (st ++ pe)).2.1, (opened (st ++ pe)).2.2) := by
  have hle := scanF_le (st ++ pe) hb (st ++ pe).length 0 (by omega)
  refine Ev.congr (fun k => by rw [Z.customsref33_Open.f, ref_read_eq st pe (by omega)]) (ev_some ?_)
  refine Ev.bind (ref_scan_ev (st ++ pe) hb (by rw [List.length_append]; omega)) ?_
  dsimp only
  rw [ref_truncate_eq st pe _ (by omega), trunc2, if_neg (by omega)]
  refine ev_some ?_
  have := ref_open_loop (scanF (st ++ pe).length (st ++ pe) 0).1 (by have := hle.2; have e : (st ++ pe).length = st.length + pe.length := List.length_append; omega) ((st ++ pe).take (scanF (st ++ pe).length (st ++ pe) 0).2) [] (scanF (st ++ pe).length (st ++ pe) 0).1.length 0 ([], false, []) (by omega) (by simp)
  simp only [List.drop_zero] at this
  rw [Int.toNat_natCast]
  exact this
theorem opened_length (b : List Int) (hb : IsBytes b) : (opened b).2.2.length ≤ b.length := by
  have key : ∀ (fs : List Z.S57) (r : List Int × Bool × List (List Int)), (gather fs r).2.2.length ≤ r.2.2.length + fs.length := by
    intro fs
    induction fs with
    | nil => intro r; simp [gather]
    | cons f fs ih =>
      intro r
      rw [gather]
      split
      · have := ih (f.f1, true, []); simp only [List.length_nil, List.length_cons] at *; omega
      · have := ih (r.1, r.2.1, r.2.2 ++ [f.f1]); simp only [List.length_append, List.length_cons, List.length_nil] at *; omega
  have h1 := key (scanF b.length b 0).1 ([], false, [])
  have h2 := (scanF_le b hb b.length 0 (by omega)).2
  unfold opened
  simp only [List.length_nil] at h1
  omega
theorem open_law (kd : Int) (p st pe : List Int) (b0 : IsBytes st) (b1 : IsBytes pe) (b3 : IsBytes p) (hl : st.length + pe.length ≤ 3000000) : Ev (fun k => Z.customslaw34_JournalOpen.j3 k kd p st pe) true := by
  obtain ⟨x, x1, x2, _, _⟩ := ref_put_ev st pe kd p b3 (by omega)
  obtain ⟨y, y1, y2⟩ := ref_append_ev st pe p b3 (by omega)
  have hbb := isBytes_append b0 b1
  refine Ev.step (fun k => by rw [Z.customslaw34_JournalOpen.j3]) ?_
  refine Ev.bind x2 (Ev.bind x1 (Ev.bind y2 (Ev.bind y1 (ev_pos rfl ?_))))
  rw [sameDisk_self, sameDisk_self]
  refine ev_some (ev_pos rfl (ev_pos rfl (ev_some ?_)))
  refine Ev.step (fun k => by rw [Z.customslaw34_JournalOpen.j4]) (ev_neg (by decide) ?_)
  refine Ev.bind (open_ev st pe hbb (by omega)) (Ev.bind (ref_open_ev st pe hbb (by omega)) ?_)
  rw [sameDisk_self]
  refine ev_some (ev_pos rfl ?_)
  rw [sameBytes_self]
  have := opened_length (st ++ pe) hbb
  rw [List.length_append] at this
  refine ev_some (ev_pos rfl (ev_pos (by simp) (Ev.bind (sameRecords_self (opened (st ++ pe)).2.2 (by omega)) (ev_pos rfl (Ev.bind awake34 (Ev.now _))))))
theorem open_loop0 (x0 : List (List Int)) (l1 : List Bool) (kd : Int) (p : List Int) (hl1 : l1.length ≤ 140737488351232) (g0 : x0.length ≤ 16 ∧ ∀ p ∈ x0, IsBytes p ∧ p.length ≤ 300) (b3 : IsBytes p) (hp : p.length ≤ 140737488351232) : ∀ (d i : Nat) (st pe : List Int), i + d = x0.length → IsBytes st → IsBytes pe → st.length + pe.length ≤ 1000000 →
    Ev (fun k => Z.customslaw34_JournalOpen.l0 k x0 l1 (i : Int) kd p st pe) true := by
  intro d
  induction d with
  | zero =>
    intro i st pe hi h0 h1 hs
    exact Ev.step (fun k => by rw [Z.customslaw34_JournalOpen.l0]) (ev_neg (by omega) (open_law kd p st pe h0 h1 b3 (by omega)))
  | succ d ih =>
    intro i st pe hi h0 h1 hs
    have hm := g0.2 _ (rdL1_mem x0 i (by omega))
    have j2 : ∀ c : Int, Ev (fun k => Z.customslaw34_JournalOpen.j2 k x0 l1 (i : Int) c kd p st pe) true := by
      intro c
      obtain ⟨x, x1, _, x3, x4⟩ := ref_put_ev st pe c _ hm.1 (by omega)
      obtain ⟨x3, x5⟩ := x3 h0 h1
      refine Ev.step (fun k => by rw [Z.customslaw34_JournalOpen.j2]) (ev_pos (by omega) (ev_pos (by omega) (Ev.bind x1 ?_)))
      rw [wrap64_id ((i : Int) + 1) (by omega)]
      by_cases h3 : Int.tmod (i : Int) 3 = 1
      · refine ev_pos h3 ?_
        rw [ref_sync_eq _ _ (by omega)]
        refine ev_some ?_
        exact ih (i + 1) (x.1 ++ x.2.1) [] (by omega) (isBytes_append x3 x5) (fun x hx => by cases hx) (by rw [List.length_append]; simp only [List.length_nil]; omega)
      · exact ev_neg h3 (ih (i + 1) x.1 x.2.1 (by omega) x3 x5 x4)
    have j1 : ∀ x : Bool, Ev (fun k => Z.customslaw34_JournalOpen.j1 k x0 l1 (i : Int) 1 x kd p st pe) true := by
      intro x
      refine Ev.step (fun k => by rw [Z.customslaw34_JournalOpen.j1]) ?_
      by_cases hx : x = true
      · exact ev_pos hx (j2 2)
      · exact ev_neg hx (j2 1)
    refine Ev.step (fun k => by rw [Z.customslaw34_JournalOpen.l0]) (ev_pos (by omega) ?_)
    by_cases h1 : (i : Int) < (l1.length : Int)
    · exact ev_pos h1 (ev_pos (by omega) (j1 _))
    · exact ev_neg h1 (j1 _)
theorem JournalOpen (l0 : (List (List Int))) (l1 : (List Bool)) (l2_0 : (List Int)) (l2_1 : (List Int)) (a3_0 : Int) (l3_1 : (List Int)) (a4 : Bool) (hb : bkL (bkL (fun _ => 1)) l0 + bkL (fun _ => 1) l1 + bkL (fun _ => 1) l2_0 + bkL (fun _ => 1) l2_1 + 1 + bkL (fun _ => 1) l3_1 + 1 ≤ 1048576) (w0 : (l0.length * 24 ≤ 140737488351232 ∧ ∀ z0 ∈ l0, (z0.length * 1 ≤ 140737488351232 ∧ ∀ z1 ∈ z0, (Lit.int .u8 z1).wf = true))) (w1 : (l1.length * 1 ≤ 140737488351232 ∧ ∀ z0 ∈ l1, True)) (w2_0 : (l2_0.length * 1 ≤ 140737488351232 ∧ ∀ z0 ∈ l2_0, (Lit.int .u8 z0).wf = true)) (w2_1 : (l2_1.length * 1 ≤ 140737488351232 ∧ ∀ z0 ∈ l2_1, (Lit.int .u8 z0).wf = true)) (w3_0 : (Lit.int .i64 a3_0).wf = true) (w3_1 : (l3_1.length * 1 ≤ 140737488351232 ∧ ∀ z0 ∈ l3_1, (Lit.int .u8 z0).wf = true)) (w4 : True) : ∃ k, Z.customslaw34_JournalOpen.f k l0 l1 l2_0 l2_1 a3_0 l3_1 a4 = some true := by
  simp only [bkL_one] at hb
  have hbl := length_bkL (bkL (fun _ => 1)) (fun x => by simp [bkL]) l0
  have g0 := cut2_good l0 (fun p hp => isBytes_of (w0.2 p hp).2)
  have b0 := isBytes_of w2_0.2
  have b1 := isBytes_of w2_1.2
  have b3 := isBytes_of w3_1.2
  refine Ev.rounds (Ev.congr (fun k => by rw [Z.customslaw34_JournalOpen.f]) ?_)
  refine Ev.bind (cut_ev l0 (by omega)) ?_
  by_cases h4 : a4 = true
  · exact ev_pos h4 (open_law a3_0 l3_1 l2_0 l2_1 b0 b1 b3 (by omega))
  · refine ev_neg h4 ?_
    exact open_loop0 (cut2 l0) l1 a3_0 l3_1 (by omega) g0 b3 (by omega) (cut2 l0).length 0 [] [] (by omega) (fun x hx => by cases hx) (fun x hx => by cases hx) (by simp)
end Go.Proofs.Ytfljnggpnndmkaa.Pure
