/- What the journal's functions compute. Conditions: those each theorem states. -/
import Derived.Test.YtfljnggpnndmkaaBase
import Derived.Test.YtfljnggpnndmkaaZjournalAppend
import Derived.Test.YtfljnggpnndmkaaZjournalOpen
import Derived.Test.YtfljnggpnndmkaaZcustomslaw34awake
import Derived.Test.YtfljnggpnndmkaaZcustomsref33SameBytes
namespace Go.Proofs.Ytfljnggpnndmkaa.Pure
open Go.RowKit Go.Proofs.YtfljnggpnndmkaaW.PrintWords Go.Proofs.YtfljnggpnndmkaaW.PrintLast Go.Proofs.YtfljnggpnndmkaaW.PrintMore Go.Proofs.Ytfljnggpnndmkaa.Opening
set_option linter.unusedVariables false
set_option linter.unusedSimpArgs false
theorem sameBytes_self (l : List Int) : Z.customsref33_SameBytes.f l l = some true := by simp [Z.customsref33_SameBytes.f]
theorem read_eq (a b : List Int) (h : a.length + b.length ≤ 140737488351232) : Z.disk_Read.f a b = some (a ++ b) := by
  simp only [Z.disk_Read.f, Z.slices_Concat_byte_byte.f]
  rw [if_pos (by omega)]
  rfl
theorem sync_eq (a b : List Int) (h : a.length + b.length ≤ 140737488351232) : Z.disk_Sync.f a b = some (a ++ b, []) := by
  simp only [Z.disk_Sync.f, read_eq a b h, Option.bind_some]
theorem write_eq (a b c : List Int) (ha : a.length ≤ 140737488351232) (hb : b.length ≤ 140737488351232) (hc : c.length ≤ 140737488351232) : Z.disk_Write.f a b c = some (if a.length + b.length + c.length > 1000000 then ([], [], 8) else (a, b ++ c, 0)) := by
  simp only [Z.disk_Write.f, Z.slices_Clone_byte_byte.f, Z.slices_Concat_byte_byte.f]
  rw [wrap64_id ((a.length : Int) + (b.length : Int)) (by omega), wrap64_id ((a.length : Int) + (b.length : Int) + (c.length : Int)) (by omega)]
  by_cases h : a.length + b.length + c.length > 1000000
  · rw [if_pos (by omega), if_pos h]
  · rw [if_neg (by omega), if_neg h, if_pos (by omega), if_pos (by omega)]
    rfl
theorem truncate_eq (a b : List Int) (n : Int) (h : a.length + b.length ≤ 140737488351232) : Z.disk_Truncate.f a b n = some (trunc2 a b n) := by
  simp only [Z.disk_Truncate.f, read_eq a b h, Option.bind_some, Z.slices_Clone_byte_byte.f, trunc2]
  by_cases h0 : n < 0
  · rw [if_pos h0, if_pos (.inl h0)]
  · by_cases h1 : n > ((a ++ b).length : Int)
    · rw [if_neg h0, if_pos h1, if_pos (.inr h1)]
    · rw [if_neg h0, if_neg h1, if_pos (by omega), if_pos (by omega), if_pos (by rw [List.length_take, List.length_append]; omega), if_neg (by omega)]
      rfl
theorem ck_loop (l : List Int) (hb : IsBytes l) (hl : l.length ≤ 140737488351232) : ∀ (d i : Nat) (x y : Int), i + d = l.length → 0 ≤ x → x < 65521 → 0 ≤ y → y < 65521 →
    Ev (fun k => Z.message_Checksum.l0 k x y l (l.length : Int) (i : Int)) ((ckGo (l.drop i) x y).2 * 65536 + (ckGo (l.drop i) x y).1) := by
  intro d
  induction d with
  | zero =>
    intro i x y hi h0 h1 h2 h3
    refine Ev.step (fun k => by rw [Z.message_Checksum.l0]) ?_
    refine ev_neg (by omega) ?_
    rw [List.drop_of_length_le (by omega), wrap64_id (y * 65536) (by omega), or16 x y h0 (by omega) h2 (by omega)]
    exact Ev.now _
  | succ d ih =>
    intro i x y hi h0 h1 h2 h3
    obtain ⟨r0, r1⟩ := rd_byte hb (i : Int) (by omega) (by omega)
    refine Ev.step (fun k => by rw [Z.message_Checksum.l0]) ?_
    refine ev_pos (by omega) (ev_pos (by omega) (ev_pos (by omega) ?_))
    rw [wrap64_id (rd l (i : Int)) (by omega), wrap64_id (x + rd l (i : Int)) (by omega), Int.tmod_eq_emod_of_nonneg (by omega), wrap64_id (y + (x + rd l (i : Int)) % 65521) (by omega), Int.tmod_eq_emod_of_nonneg (by omega), wrap64_id ((i : Int) + 1) (by omega), drop_cons l i (by omega)]
    exact ih (i + 1) _ _ (by omega) (by omega) (by omega) (by omega) (by omega)
theorem ck_ev (l : List Int) (hb : IsBytes l) (hl : l.length ≤ 140737488351232) : Ev (fun k => Z.message_Checksum.f k l) (ck l) := ck_loop l hb hl l.length 0 1 0 (by omega) (by omega) (by omega) (by omega) (by omega)
theorem sum_ev (l : List Int) (hb : IsBytes l) (hl : l.length ≤ 140737488351232) : Ev (fun k => Z.journal_sum.f k l) (sum4 (ck l)) := by
  refine Ev.congr (fun k => by rw [Z.journal_sum.f]) ?_
  exact Ev.bind (ck_ev l hb hl) (Ev.now _)
theorem known_eq (k : Int) : Z.journal_known.f k = some (decide (k = 1 ∨ k = 2)) := by
  simp only [Z.journal_known.f]
  by_cases h : k = 1
  · rw [if_pos h]; simp [h]
  · rw [if_neg h]
    by_cases h2 : k = 2
    · simp [h2]
    · simp [h, h2]
theorem encode_ev (k : Int) (p : List Int) (hp : IsBytes p) : Ev (fun n => Z.journal_Encode.f n k p) (encR k p) := by
  refine Ev.congr (fun n => by rw [Z.journal_Encode.f, known_eq]) ?_
  refine ev_some ?_
  unfold encR
  by_cases hk : k = 1 ∨ k = 2
  · rw [if_pos hk]
    refine ev_pos (by simpa using hk) ?_
    by_cases hl : p.length > 60000
    · rw [if_pos hl]
      exact ev_pos (by omega) (Ev.now _)
    · rw [if_neg hl]
      refine ev_neg (by omega) (ev_some ?_)
      have e : ([((p.length : Int) / 256) % 256, ((p.length : Int)) % 256, ((wrap64 (65535 - (p.length : Int))) / 256) % 256, (wrap64 (65535 - (p.length : Int))) % 256, k % 256] : List Int) = head5 k p.length := by
        rw [wrap64_id (65535 - (p.length : Int)) (by omega)]
        simp only [head5, List.cons.injEq, and_true]
        refine ⟨?_, ?_, ?_, ?_, ?_⟩ <;> first | trivial | omega
      rw [e]
      refine ev_pos (by simp [head5]; omega) (ev_some ?_)
      have hb : IsBytes (head5 k p.length ++ p) := isBytes_append (head5_bytes k _ hk (by omega) (by omega)) hp
      refine Ev.bind (sum_ev _ hb (by simp [head5]; omega)) ?_
      exact ev_pos (by simp [head5, sum4]; omega) (Ev.now _)
  · rw [if_neg hk]
    exact ev_neg (by simpa using hk) (Ev.now _)
theorem awake34 : Ev (fun k => Z.customslaw34_awake.f k) true := Ev.of (fun k => Z.customslaw34_awake.mono k) (k := 40) (by kernel_rfl)
theorem jscan_sum (b : List Int) (p : Nat) (acc : List Z.S57) (n kd : Int) (t : List Int) (r : List Z.S57 × Int) (n0 : 0 ≤ n) (n1 : n ≤ 65535) (hp : 9 + n ≤ (b.drop p).length) (ht : t.length = 4) (hl : b.length ≤ 4000000000000) (hp2 : p ≤ b.length)
    (hacc : acc.length ≤ p)
    (hyes : ((b.drop p).drop (5 + n).toNat).take 4 = t → Ev (fun k => Z.journal_Scan.l0 k b (acc ++ [⟨kd, ((b.drop p).take (5 + n).toNat).drop 5⟩]) ((p + 9 + n.toNat : Nat) : Int)) r)
    (hno : ((b.drop p).drop (5 + n).toNat).take 4 ≠ t → r = (acc, (p : Int))) :
    ∀ (d i : Nat), i + d = 4 → (∀ j : Nat, j < i → rd (b.drop p) (5 + n + j) = rd t j) → Ev (fun k => Z.journal_Scan.l1 k b acc (p : Int) (b.drop p) n kd t (t.length : Int) (i : Int)) r := by
  have hd : (((b.drop p).drop (5 + n).toNat).take 4).length = 4 := by rw [List.length_take, List.length_drop]; omega
  have hdl : (b.drop p).length = b.length - p := List.length_drop
  have hext : ((b.drop p).drop (5 + n).toNat).take 4 = t ↔ ∀ j : Nat, j < 4 → rd (b.drop p) (5 + n + j) = rd t j := by
    rw [ext4 _ _ hd ht]
    rw [rd_take _ 4 0 (by omega) (by omega), rd_take _ 4 1 (by omega) (by omega), rd_take _ 4 2 (by omega) (by omega), rd_take _ 4 3 (by omega) (by omega), rd_drop _ _ 0 (by omega), rd_drop _ _ 1 (by omega), rd_drop _ _ 2 (by omega), rd_drop _ _ 3 (by omega), Int.toNat_of_nonneg (show 0 ≤ 5 + n by omega)]
    constructor
    · rintro ⟨h0, h1, h2, h3⟩ j hj
      match j, hj with
      | 0, _ => exact h0
      | 1, _ => exact h1
      | 2, _ => exact h2
      | 3, _ => exact h3
    · intro h
      exact ⟨h 0 (by omega), h 1 (by omega), h 2 (by omega), h 3 (by omega)⟩
  intro d
  induction d with
  | zero =>
    intro i hi hpre
    have h4 : i = 4 := by omega
    subst h4
    refine Ev.step (fun k => by rw [Z.journal_Scan.l1]) ?_
    refine ev_neg (by omega) (ev_some ?_)
    rw [wrap64_id (5 + n) (by omega)]
    refine ev_pos (by omega) (ev_pos (by omega) (ev_pos ?_ (ev_pos (by omega) ?_)))
    · simp only [List.length_nil, List.length_drop, List.length_take]; omega
    · rw [wrap64_id (5 + n + 4) (by omega), wrap64_id ((p : Int) + (5 + n + 4)) (by omega), List.nil_append]
      have := hyes (hext.2 hpre)
      rw [show ((p : Int) + (5 + n + 4)) = ((p + 9 + n.toNat : Nat) : Int) by omega]
      exact this
  | succ d ih =>
    intro i hi hpre
    refine Ev.step (fun k => by rw [Z.journal_Scan.l1]) ?_
    rw [wrap64_id (5 + n) (by omega), wrap64_id (5 + n + (i : Int)) (by omega), wrap64_id ((i : Int) + 1) (by omega)]
    refine ev_pos (by omega) (ev_pos (by omega) (ev_pos (by omega) (ev_pos (by omega) (ev_pos (by omega) ?_))))
    by_cases he : rd (b.drop p) (5 + n + (i : Int)) = rd t (i : Int)
    · refine ev_pos he ?_
      have := ih (i + 1) (by omega) (fun j hj => by
        rcases Nat.lt_or_ge j i with h | h
        · exact hpre j h
        · have : j = i := by omega
          subst this; exact he)
      rw [Int.natCast_add] at this
      exact this
    · refine ev_neg he ?_
      have : r = (acc, (p : Int)) := hno (fun h => he ((hext.1 h) i (by omega)))
      subst this
      exact Ev.now _
theorem journal_scan_loop (b : List Int) (hb : IsBytes b) (hl : b.length ≤ 4000000000000) : ∀ (m p : Nat) (acc : List Z.S57), p ≤ b.length → b.length - p ≤ m → acc.length ≤ p → Ev (fun k => Z.journal_Scan.l0 k b acc (p : Int)) (acc ++ (scanF m b p).1, ((scanF m b p).2 : Int)) := by
  intro m
  induction m with
  | zero =>
    intro p acc hp hm hacc
    refine Ev.step (fun k => by rw [Z.journal_Scan.l0]) ?_
    rw [wrap64_id ((b.length : Int) - (p : Int)) (by omega)]
    refine ev_neg (by omega) ?_
    simp only [scanF, List.append_nil]
    exact Ev.now _
  | succ m ih =>
    intro p acc hp hm hacc
    have hdl : (b.drop p).length = b.length - p := List.length_drop
    refine Ev.step (fun k => by rw [Z.journal_Scan.l0]) ?_
    rw [wrap64_id ((b.length : Int) - (p : Int)) (by omega), Int.toNat_natCast]
    by_cases h9 : 9 ≤ (b.drop p).length
    · have hs := isBytes_drop hb p
      obtain ⟨q00, q01⟩ := rd_byte hs 0 (by omega) (by omega)
      obtain ⟨q10, q11⟩ := rd_byte hs 1 (by omega) (by omega)
      obtain ⟨q20, q21⟩ := rd_byte hs 2 (by omega) (by omega)
      obtain ⟨q30, q31⟩ := rd_byte hs 3 (by omega) (by omega)
      obtain ⟨q40, q41⟩ := rd_byte hs 4 (by omega) (by omega)
      rw [wrap64_id (rd (b.drop p) 0) (by omega), wrap64_id (rd (b.drop p) 1) (by omega), wrap64_id (rd (b.drop p) 2) (by omega), wrap64_id (rd (b.drop p) 3) (by omega), wrap64_id (rd (b.drop p) 4) (by omega),
        wrap64_id (rd (b.drop p) 0 * 256) (by omega), wrap64_id (rd (b.drop p) 2 * 256) (by omega), or8 _ _ q10 q11 q00 q01, or8 _ _ q30 q31 q20 q21,
        wrap64_id (rd (b.drop p) 0 * 256 + rd (b.drop p) 1 + (rd (b.drop p) 2 * 256 + rd (b.drop p) 3)) (by omega), wrap64_id (5 + (rd (b.drop p) 0 * 256 + rd (b.drop p) 1)) (by omega), wrap64_id (5 + (rd (b.drop p) 0 * 256 + rd (b.drop p) 1) + 4) (by omega)]
      refine ev_pos (by omega) (ev_pos (by omega) (ev_pos (by omega) (ev_pos (by omega) (ev_pos (by omega) (ev_pos (by omega) (ev_pos (by omega) (ev_pos (by omega) ?_)))))))
      have hn : rd (b.drop p) 0 * 256 + rd (b.drop p) 1 = lenAt (b.drop p) := rfl
      rw [hn]
      have l0 : 0 ≤ lenAt (b.drop p) := by rw [← hn]; omega
      have l1 : lenAt (b.drop p) ≤ 65535 := by rw [← hn]; omega
      have stop : ∀ {x : Bool}, x = true → ¬ isFrame (b.drop p) → Ev (fun k => Z.journal_Scan.j1 k b acc (p : Int) (b.drop p) (lenAt (b.drop p)) (rd (b.drop p) 4) x) (acc ++ (scanF (m + 1) b p).1, ((scanF (m + 1) b p).2 : Int)) := by
        intro x hx hnf
        refine Ev.step (fun k => by rw [Z.journal_Scan.j1]) ?_
        refine ev_pos hx ?_
        simp only [scanF, frame_neg hnf, List.append_nil]
        exact Ev.now _
      by_cases hsum : lenAt (b.drop p) + (rd (b.drop p) 2 * 256 + rd (b.drop p) 3) = 65535
      · refine ev_pos hsum ?_
        by_cases h6 : lenAt (b.drop p) > 60000
        · exact ev_pos h6 (stop rfl (fun hf => by have := hf.2.2.1; omega))
        · refine ev_neg h6 (Ev.congr (fun k => by rw [known_eq]) (ev_some ?_))
          by_cases hk : rd (b.drop p) 4 = 1 ∨ rd (b.drop p) 4 = 2
          · refine ev_pos (by simpa using hk) ?_
            by_cases hlen : 9 + lenAt (b.drop p) ≤ ((b.drop p).length : Int)
            · refine Ev.step (fun k => by rw [Z.journal_Scan.j1]) ?_
              rw [wrap64_id (5 + lenAt (b.drop p)) (by omega)]
              refine ev_neg (by simp only [decide_eq_true_eq]; omega) (ev_pos (by omega) (ev_pos (by omega) ?_))
              refine Ev.bind (sum_ev _ (isBytes_take hs _) (by rw [List.length_take]; omega)) ?_
              refine jscan_sum b p acc (lenAt (b.drop p)) (rd (b.drop p) 4) _ _ l0 l1 (by omega) (sum4_length _) hl hp hacc ?_ ?_ 4 0 (by omega) (fun j hj => by omega)
              · intro hyes
                have hf : isFrame (b.drop p) := ⟨h9, hsum, by omega, hk, hlen, hyes⟩
                have hfl := frame_len hs hf
                have := ih (p + 9 + (lenAt (b.drop p)).toNat) (acc ++ [⟨rd (b.drop p) 4, ((b.drop p).take (5 + lenAt (b.drop p)).toNat).drop 5⟩]) (by omega) (by omega) (by simp; omega)
                rw [scanF, frame_pos hf]
                simp only [hfl.1]
                rw [List.append_assoc] at this
                exact this
              · intro hno
                have hnf : ¬ isFrame (b.drop p) := fun hf => hno hf.2.2.2.2.2
                simp only [scanF, frame_neg hnf, List.append_nil]
            · exact stop (by simp only [decide_eq_true_eq]; omega) (fun hf => hlen hf.2.2.2.2.1)
          · exact ev_neg (by simpa using hk) (stop rfl (fun hf => hk hf.2.2.2.1))
      · exact ev_neg hsum (stop rfl (fun hf => hsum hf.2.1))
    · refine ev_neg (by omega) ?_
      have hnf : ¬ isFrame (b.drop p) := fun hf => h9 hf.1
      simp only [scanF, frame_neg hnf, List.append_nil]
      exact Ev.now _
theorem sameBytes_eq (a b : List Int) (ha : IsBytes a) (hb : IsBytes b) : Z.customsref33_SameBytes.f a b = some (decide (a = b)) := by
  simp only [Z.customsref33_SameBytes.f, Option.some.injEq]
  by_cases h : a = b
  · subst h; simp
  · simp only [h, decide_false, beq_eq_false_iff_ne, ne_eq]
    exact fun hh => h (bytesOf_inj ha hb hh)
theorem scan_ev (b : List Int) (hb : IsBytes b) (hl : b.length ≤ 4000000000000) : Ev (fun k => Z.journal_Scan.f k b) ((scanF b.length b 0).1, ((scanF b.length b 0).2 : Int)) := journal_scan_loop b hb hl b.length 0 [] (by omega) (by omega) (by simp)
theorem put_ev (st pe : List Int) (kd : Int) (p : List Int) (hk : kd = 1 ∨ kd = 2) (hp : IsBytes p) (hl : p.length ≤ 60000) (hs : st.length + pe.length + p.length + 9 ≤ 1000000) :
    Ev (fun k => Z.journal_Put.f k st pe kd p) (st, pe ++ enc kd p, 0) := by
  refine Ev.congr (fun k => by rw [Z.journal_Put.f]) ?_
  refine Ev.bind (encode_ev kd p hp) ?_
  have er : encR kd p = (enc kd p, 0) := by unfold encR; rw [if_pos hk, if_neg (by omega)]
  rw [er]
  refine ev_pos rfl ?_
  have := enc_length kd p
  rw [write_eq st pe (enc kd p) (by omega) (by omega) (by omega), if_neg (by omega)]
  exact ev_some (Ev.now _)
theorem append_ev (st pe p : List Int) (hp : IsBytes p) (hl : p.length ≤ 60000) (hs : st.length + pe.length + p.length + 9 ≤ 1000000) :
    Ev (fun k => Z.journal_Append.f k st pe p) (st ++ (pe ++ enc 1 p), [], 0) := by
  refine Ev.congr (fun k => by rw [Z.journal_Append.f]) ?_
  refine Ev.bind (put_ev st pe 1 p (.inl rfl) hp hl hs) (ev_pos rfl ?_)
  have := enc_length 1 p
  rw [sync_eq st (pe ++ enc 1 p) (by rw [List.length_append]; omega)]
  exact ev_some (Ev.now _)
theorem open_loop (fs : List Z.S57) (hl : fs.length ≤ 4000000000000) (d1 d2 : List Int) : ∀ (d i : Nat) (r : List Int × Bool × List (List Int)), i + d = fs.length → r.2.2.length ≤ i →
    Ev (fun k => Z.journal_Open.l0 k r.1 r.2.2 r.2.1 fs (fs.length : Int) (i : Int) d1 d2) (d1, d2, (gather (fs.drop i) r).1, (gather (fs.drop i) r).2.1, (gather (fs.drop i) r).2.2) := by
  intro d
  induction d with
  | zero =>
    intro i r hi hr
    refine Ev.step (fun k => by rw [Z.journal_Open.l0]) ?_
    rw [List.drop_of_length_le (by omega)]
    exact ev_neg (by omega) (Ev.now _)
  | succ d ih =>
    intro i r hi hr
    refine Ev.step (fun k => by rw [Z.journal_Open.l0]) ?_
    rw [wrap64_id ((i : Int) + 1) (by omega), drop_cons57 fs i (by omega)]
    refine ev_pos (by omega) (ev_pos (by omega) (ev_pos (by omega) ?_))
    by_cases h2 : (Z.rd_T57 fs (i : Int)).f0 = 2
    · refine ev_pos h2 ?_
      rw [gather, if_pos h2]
      exact ih (i + 1) ((Z.rd_T57 fs (i : Int)).f1, true, []) (by omega) (by simp)
    · refine ev_neg h2 (ev_pos (by omega) ?_)
      rw [gather, if_neg h2]
      exact ih (i + 1) (r.1, r.2.1, r.2.2 ++ [(Z.rd_T57 fs (i : Int)).f1]) (by omega) (by simp; omega)
theorem open_ev (st pe : List Int) (hb : IsBytes (st ++ pe)) (hl : st.length + pe.length ≤ 4000000000000) :
    Ev (fun k => Z.journal_Open.f k st pe) ((st ++ pe).take (scanF (st ++ pe).length (st ++ pe) 0).2, [], (opened (st ++ pe)).1, (opened (st ++ pe)).2.1, (opened (st ++ pe)).2.2) := by
  have hle := scanF_le (st ++ pe) hb (st ++ pe).length 0 (by omega)
  refine Ev.congr (fun k => by rw [Z.journal_Open.f, read_eq st pe (by omega)]) (ev_some ?_)
  refine Ev.bind (scan_ev (st ++ pe) hb (by rw [List.length_append]; omega)) ?_
  dsimp only
  rw [truncate_eq st pe _ (by omega), trunc2, if_neg (by omega)]
  refine ev_some ?_
  have := open_loop (scanF (st ++ pe).length (st ++ pe) 0).1 (by have := hle.2; have e : (st ++ pe).length = st.length + pe.length := List.length_append; omega) ((st ++ pe).take (scanF (st ++ pe).length (st ++ pe) 0).2) [] (scanF (st ++ pe).length (st ++ pe) 0).1.length 0 ([], false, []) (by omega) (by simp)
  simp only [List.drop_zero] at this
  rw [Int.toNat_natCast]
  exact this
end Go.Proofs.Ytfljnggpnndmkaa.Pure
