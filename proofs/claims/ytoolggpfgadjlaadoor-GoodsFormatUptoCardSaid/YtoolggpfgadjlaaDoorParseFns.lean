/- What Parse reads from a text that Format has written. Conditions: those each theorem states. -/
import Derived.Test.YtoolggpfgadjlaaDoorFmtFns
import Derived.Test.YtoolggpfgadjlaaDoorCFns
import Derived.Test.YtoolggpfgadjlaaDoorZgoodsParse
import Derived.Test.YtoolggpfgadjlaaDoorZcustomsref08SameGood
namespace Go.Proofs.YtoolggpfgadjlaaDoor.Pure
open Go.RowKit Go.Proofs.YtoolggpfgadjlaaDoorW.PrintWords Go.Proofs.YtoolggpfgadjlaaDoorW.PrintLast Go.Proofs.YtoolggpfgadjlaaDoorW.PrintMore Go.Proofs.YtoolggpfgadjlaaDoor.Str
set_option linter.unusedVariables false
set_option linter.unusedSimpArgs false
-- which bytes there are
theorem join_mem (c : UInt8) (b : UInt8) : ∀ (l : List (List UInt8)), b ∈ Lib.join l [c] → b = c ∨ ∃ x ∈ l, b ∈ x
  | [], h => by rw [Lib.join_nil] at h; cases h
  | [x], h => by rw [Lib.join_one] at h; exact .inr ⟨x, List.mem_cons_self, h⟩
  | x :: y :: r, h => by
    rw [join_two] at h
    rcases List.mem_append.1 h with h | h
    · exact .inr ⟨x, List.mem_cons_self, h⟩
    · rcases List.mem_cons.1 h with h | h
      · exact .inl h
      · rcases join_mem c b (y :: r) h with h | ⟨z, hz, hb⟩
        · exact .inl h
        · exact .inr ⟨z, List.mem_cons_of_mem _ hz, hb⟩
theorem wb_bytes {l : List ByteArray} (h : wsN l = true) : ∀ x ∈ wb l, ∀ b ∈ x, 97 ≤ b.toNat ∧ b.toNat ≤ 122 := by
  intro x hx b hb
  obtain ⟨s, hs, rfl⟩ := List.mem_map.1 hx
  exact wd_letters ((wsN_of h).2.2 s hs) b hb
theorem words_bytes {l : List ByteArray} (h : wsN l = true) : ∀ b ∈ Lib.join (wb l) [43], b.toNat = 43 ∨ (97 ≤ b.toNat ∧ b.toNat ≤ 122) := by
  intro b hb
  rcases join_mem 43 b _ hb with rfl | ⟨x, hx, hb⟩
  · exact .inl rfl
  · exact .inr (wb_bytes h x hx b hb)
theorem dec_bytes (u : Nat) : ∀ b ∈ Lib.decDigits u, 48 ≤ b.toNat ∧ b.toNat ≤ 57 := dec_all u u (Nat.le_refl _)
theorem mb_bytes {m : Z.S36} (h : wd m.f0 = true) : ∀ b ∈ mb m, b.toNat = 58 ∨ (48 ≤ b.toNat ∧ b.toNat ≤ 57) ∨ (97 ≤ b.toNat ∧ b.toNat ≤ 122) := by
  intro b hb
  unfold mb at hb
  rcases List.mem_append.1 hb with hb | hb
  · exact .inr (.inr (wd_letters h b hb))
  · rcases List.mem_cons.1 hb with rfl | hb
    · exact .inl rfl
    · exact .inr (.inl (dec_bytes _ b hb))
theorem pb_bytes {p : Z.S38} (h : wsN p.f0 = true) : ∀ b ∈ pb p, b.toNat = 58 ∨ b.toNat = 43 ∨ (48 ≤ b.toNat ∧ b.toNat ≤ 57) ∨ (97 ≤ b.toNat ∧ b.toNat ≤ 122) := by
  intro b hb
  unfold pb at hb
  rcases List.mem_append.1 hb with hb | hb
  · rcases words_bytes h b hb with h | h
    · exact .inr (.inl h)
    · exact .inr (.inr (.inr h))
  · rcases List.mem_cons.1 hb with rfl | hb
    · exact .inl rfl
    · exact .inr (.inr (.inl (dec_bytes _ b hb)))
-- the fields
def fldM (ms : List Z.S36) : List (List UInt8) := if ms = [] then [] else [[109, 58] ++ Lib.join (ms.map mb) [44]]
def fldP (ps : List Z.S38) : List (List UInt8) := if ps = [] then [] else [[112, 58] ++ Lib.join (ps.map pb) [44]]
def fldI (inc : Bool) : List (List UInt8) := if inc = true then [[105, 110, 99, 111, 109, 112, 108, 101, 116, 101]] else []
def flds (ws : List ByteArray) (ms : List Z.S36) (ps : List Z.S38) (inc : Bool) : List (List UInt8) := Lib.join (wb ws) [43] :: (fldM ms ++ fldP ps ++ fldI inc)
theorem join_opt (l : List (List UInt8)) (hl : l ≠ []) (o : List (List UInt8)) (x : List UInt8) (ho : o = [] ∨ o = [x]) : Lib.join (l ++ o) [32] = Lib.join l [32] ++ (if o = [] then [] else 32 :: x) := by
  rcases ho with rfl | rfl
  · rw [List.append_nil, if_pos rfl, List.append_nil]
  · rw [if_neg (by simp), join_snoc 32 x l hl]
theorem fmt_flds (ws : List ByteArray) (ms : List Z.S36) (ps : List Z.S38) (inc : Bool) : fmtL ws ms ps inc = Lib.join (flds ws ms ps inc) [32] := by
  have e : flds ws ms ps inc = (([Lib.join (wb ws) [43]] ++ fldM ms) ++ fldP ps) ++ fldI inc := by unfold flds; simp
  rw [e, join_opt _ (by simp) (fldI inc) [105, 110, 99, 111, 109, 112, 108, 101, 116, 101] (by unfold fldI; split <;> simp),
    join_opt _ (by simp) (fldP ps) ([112, 58] ++ Lib.join (ps.map pb) [44]) (by unfold fldP; split <;> simp),
    join_opt _ (by simp) (fldM ms) ([109, 58] ++ Lib.join (ms.map mb) [44]) (by unfold fldM; split <;> simp), Lib.join_one]
  unfold fmtL
  congr 1
  · congr 1
    · congr 1
      unfold part fldM
      by_cases h : ms = []
      · subst h; rfl
      · rw [if_neg (by simpa using h), if_neg h, if_neg (by simp)]; rfl
    · unfold part fldP
      by_cases h : ps = []
      · subst h; rfl
      · rw [if_neg (by simpa using h), if_neg h, if_neg (by simp)]; rfl
  · unfold incL fldI
    cases inc <;> rfl
section
variable (ws : List ByteArray) (ms : List Z.S36) (ps : List Z.S38) (inc : Bool) (gv : GV ws ms ps)
include gv
theorem flds_bytes : ∀ x ∈ flds ws ms ps inc, (32 : UInt8) ∉ x := by
  intro x hx h32
  unfold flds at hx
  rcases List.mem_cons.1 hx with rfl | hx
  · have := words_bytes gv.w 32 h32
    rw [show (32 : UInt8).toNat = 32 from rfl] at this
    omega
  · rcases List.mem_append.1 hx with hx | hx
    · rcases List.mem_append.1 hx with hx | hx
      · unfold fldM at hx
        split at hx
        · cases hx
        · rw [List.mem_singleton.1 hx] at h32
          rcases List.mem_append.1 h32 with h | h
          · simp at h
          · rcases join_mem 44 32 _ h with h | ⟨y, hy, hb⟩
            · exact absurd h (by decide)
            · obtain ⟨m, hm, rfl⟩ := List.mem_map.1 hy
              have := mb_bytes (gv.mw m hm) 32 hb
              rw [show (32 : UInt8).toNat = 32 from rfl] at this
              omega
      · unfold fldP at hx
        split at hx
        · cases hx
        · rw [List.mem_singleton.1 hx] at h32
          rcases List.mem_append.1 h32 with h | h
          · simp at h
          · rcases join_mem 44 32 _ h with h | ⟨y, hy, hb⟩
            · exact absurd h (by decide)
            · obtain ⟨p, hp, rfl⟩ := List.mem_map.1 hy
              have := pb_bytes (gv.pw p hp) 32 hb
              rw [show (32 : UInt8).toNat = 32 from rfl] at this
              omega
    · unfold fldI at hx
      split at hx
      · rw [List.mem_singleton.1 hx] at h32
        simp at h32
      · cases hx
theorem fmt_len : (fmtL ws ms ps inc).length ≤ 1000 := by
  have a := wb_len gv.w
  have b := part_mlen ws ms ps gv ms.length
  have c := part_plen ws ms ps gv ps.length
  rw [List.take_length] at b c
  have d : (incL inc).length ≤ 11 := by unfold incL; split <;> simp
  unfold fmtL
  rw [List.length_append, List.length_append, List.length_append]
  omega
end
theorem split_eq (c : UInt8) (l : List (List UInt8)) (h : l ≠ []) (hx : ∀ x ∈ l, c ∉ x) (hs : (Lib.join l [c]).length ≤ 100000) : Z.strings_Split.f (bs (Lib.join l [c])) (bs [c]) = some (l.map bs) := by
  unfold Z.strings_Split.f
  rw [if_pos ⟨by rw [bs_size]; omega, by rw [bs_size]; exact Nat.le_refl 1⟩, splitB_join c l h hx]
theorem wb_bs (l : List ByteArray) : (wb l).map bs = l := (map_bs rfl).symm
theorem split_words {l : List ByteArray} (h : wsN l = true) : Z.strings_Split.f (bs (Lib.join (wb l) [43])) (bs [43]) = some l := by
  obtain ⟨h0, h8, hw⟩ := wsN_of h
  have hne : wb l ≠ [] := by
    intro e
    have := congrArg List.length e
    simp [wb] at this
    rw [this] at h0
    exact absurd h0 (by decide)
  rw [split_eq 43 (wb l) hne (fun x hx h43 => ?_) (by have := wb_len h; omega), wb_bs]
  have := wb_bytes h x hx 43 h43
  rw [show (43 : UInt8).toNat = 43 from rfl] at this
  omega
-- a pair
theorem pair_eq (x : List UInt8) (n : Int) (hn : 1 ≤ n ∧ n ≤ 1000000) (hx : x.length ≤ 100000) : Z.goods_pair.f (bs (x ++ 58 :: Lib.decDigits n.toNat)) = some (bs x, n) := by
  have hd := dec_small hn
  have hy : (58 : UInt8) ∉ Lib.decDigits n.toNat := fun h => by
    have := dec_bytes n.toNat 58 h
    rw [show (58 : UInt8).toNat = 58 from rfl] at this
    omega
  have hl : Lib.lastIndexByte (bs (x ++ 58 :: Lib.decDigits n.toNat)) 58 = x.length := last_at 58 x _ hy
  have hsz : (bs (x ++ 58 :: Lib.decDigits n.toNat)).size = x.length + 1 + (Lib.decDigits n.toNat).length := by rw [bs_size, List.length_append, List.length_cons]; omega
  have e1 : ((x.length : Int) + 1).toNat = x.length + 1 := by omega
  have e2 : ((bs (x ++ 58 :: Lib.decDigits n.toNat)).extract (x.length + 1) (bs (x ++ 58 :: Lib.decDigits n.toNat)).size).data.toList = Lib.decDigits n.toNat := by
    rw [Lib.extract_to_end, bs_data, ← List.drop_drop, List.drop_left]
    rfl
  have e3 : (bs (x ++ 58 :: Lib.decDigits n.toNat)).extract 0 x.length = bs x := bs_inj (by rw [Lib.extract_data, bs_data, List.drop_zero, Nat.sub_zero, List.take_left]; rfl)
  unfold Z.goods_pair.f
  rw [if_pos (by omega), hl, if_neg (by omega), if_pos (by omega), e1, e2, atoi_dec n.toNat (by omega)]
  dsimp only
  rw [show ((x.length : Nat) : Int).toNat = x.length from rfl, e3, show ((n.toNat : Nat) : Int) = n by omega]
-- prefixes
theorem pre_eq (f : List UInt8) (a b : UInt8) : Z.strings_HasPrefix.f (bs f) (bs [a, b]) = some (f.take 2 == [a, b]) := by
  unfold Z.strings_HasPrefix.f Z.stringslite_HasPrefix.f
  have e : ((bs [a, b]).size : Int) = 2 := rfl
  rw [e]
  by_cases h : ((bs f).size : Int) ≥ 2
  · rw [if_pos h, if_pos (by decide), if_pos (by omega), toList_data, toList_data, Lib.extract_data, bs_data, bs_data, List.drop_zero]
    rfl
  · rw [if_neg h]
    rw [bs_size] at h
    have : (f.take 2 == [a, b]) = false := beq_eq_false_iff_ne.2 (fun e => by
      have := congrArg List.length e
      rw [List.length_take] at this
      simp at this
      omega)
    rw [this]
    rfl
theorem ex2 (f : List UInt8) : (bs f).extract 2 (bs f).size = bs (f.drop 2) := bs_inj (by rw [Lib.extract_to_end, bs_data, bs_data])
-- the loops
section
variable (x0 : ByteArray) (y : List ByteArray) (hy : y.length ≤ 10)
include hy
theorem loop_m (i : Nat) (hi : i < y.length) (l : List Z.S36) (hl : l.length ≤ 8) (hw : ∀ m ∈ l, wd m.f0 = true ∧ 1 ≤ m.f1 ∧ m.f1 ≤ 1000000) (WS : List ByteArray) (PS : List Z.S38) (INC : Bool) (r : List ByteArray × List Z.S36 × List Z.S38 × Bool × Int)
    (hr : Ev (fun k => Z.goods_Parse.l0 k x0 y (y.length : Int) ((i : Int) + 1) WS l PS INC) r) : ∀ (d j : Nat), j + d = l.length → Ev (fun k => Z.goods_Parse.l1 k x0 y (y.length : Int) (i : Int) ((l.map mb).map bs) (((l.map mb).map bs).length : Int) (j : Int) WS (l.take j) PS INC) r := by
  have hll : ((l.map mb).map bs).length = l.length := by rw [List.length_map, List.length_map]
  intro d
  induction d with
  | zero =>
    intro j hj
    refine Ev.step (fun k => by rw [Z.goods_Parse.l1]) ?_
    refine ev_neg (by omega) ?_
    rw [List.take_of_length_le (by omega), wrap64_id ((i : Int) + 1) (by omega)]
    exact hr
  | succ d ih =>
    intro j hj
    have hj2 : j < l.length := by omega
    obtain ⟨h1, h2⟩ := hw _ (List.getElem_mem hj2)
    have e : rdOf ByteArray.empty ((l.map mb).map bs) (j : Int) = bs (l[j].f0.data.toList ++ 58 :: Lib.decDigits l[j].f1.toNat) := by
      rw [rdOf_at, at_get _ _ (by omega), List.getElem_map, List.getElem_map]
      rfl
    refine Ev.step (fun k => by rw [Z.goods_Parse.l1]) ?_
    refine ev_pos (by omega) (ev_pos (by omega) (ev_pos (by omega) ?_))
    rw [e, pair_eq _ _ h2 (by have := wd_size h1; omega), wrap64_id ((j : Int) + 1) (by omega)]
    refine ev_some (ev_pos (by rw [List.length_take]; omega) ?_)
    have := ih (j + 1) (by omega)
    rw [List.take_succ_eq_append_getElem hj2] at this
    rw [show ((⟨bs l[j].f0.data.toList, l[j].f1⟩ : Z.S36)) = l[j] by rw [← bs_of]]
    exact this
theorem loop_p (i : Nat) (hi : i < y.length) (l : List Z.S38) (hl : l.length ≤ 6) (hw : ∀ p ∈ l, wsN p.f0 = true ∧ 1 ≤ p.f1 ∧ p.f1 ≤ 1000000) (WS : List ByteArray) (MS : List Z.S36) (INC : Bool) (r : List ByteArray × List Z.S36 × List Z.S38 × Bool × Int)
    (hr : Ev (fun k => Z.goods_Parse.l0 k x0 y (y.length : Int) ((i : Int) + 1) WS MS l INC) r) : ∀ (d j : Nat), j + d = l.length → Ev (fun k => Z.goods_Parse.l2 k x0 y (y.length : Int) (i : Int) ((l.map pb).map bs) (((l.map pb).map bs).length : Int) (j : Int) WS MS (l.take j) INC) r := by
  have hll : ((l.map pb).map bs).length = l.length := by rw [List.length_map, List.length_map]
  intro d
  induction d with
  | zero =>
    intro j hj
    refine Ev.step (fun k => by rw [Z.goods_Parse.l2]) ?_
    refine ev_neg (by omega) ?_
    rw [List.take_of_length_le (by omega), wrap64_id ((i : Int) + 1) (by omega)]
    exact hr
  | succ d ih =>
    intro j hj
    have hj2 : j < l.length := by omega
    obtain ⟨h1, h2⟩ := hw _ (List.getElem_mem hj2)
    have e : rdOf ByteArray.empty ((l.map pb).map bs) (j : Int) = bs (Lib.join (wb l[j].f0) [43] ++ 58 :: Lib.decDigits l[j].f1.toNat) := by
      rw [rdOf_at, at_get _ _ (by omega), List.getElem_map, List.getElem_map]
      rfl
    refine Ev.step (fun k => by rw [Z.goods_Parse.l2]) ?_
    refine ev_pos (by omega) (ev_pos (by omega) (ev_pos (by omega) ?_))
    rw [e, pair_eq _ _ h2 (by have := wb_len h1; omega), wrap64_id ((j : Int) + 1) (by omega)]
    refine ev_some ?_
    dsimp only
    rw [show (⟨#[43]⟩ : ByteArray) = bs [43] from rfl, split_words h1]
    refine ev_some (ev_pos (by rw [List.length_take]; omega) ?_)
    have := ih (j + 1) (by omega)
    rw [List.take_succ_eq_append_getElem hj2] at this
    exact this
theorem fld_i (i : Nat) (hi : i < y.length) (e : at_ y i = bs [105, 110, 99, 111, 109, 112, 108, 101, 116, 101]) (WS : List ByteArray) (MS : List Z.S36) (PS : List Z.S38) (INC : Bool) (r : List ByteArray × List Z.S36 × List Z.S38 × Bool × Int)
    (hr : Ev (fun k => Z.goods_Parse.l0 k x0 y (y.length : Int) ((i : Int) + 1) WS MS PS true) r) : Ev (fun k => Z.goods_Parse.l0 k x0 y (y.length : Int) (i : Int) WS MS PS INC) r := by
  refine Ev.step (fun k => by rw [Z.goods_Parse.l0]) ?_
  refine ev_pos (by omega) (ev_pos (by omega) (ev_pos (by omega) ?_))
  rw [rdOf_at, e, toList_data, bs_data, wrap64_id ((i : Int) + 1) (by omega)]
  exact ev_pos rfl hr
theorem fld_m (i : Nat) (hi : i < y.length) (l : List Z.S36) (hne : l ≠ []) (e : at_ y i = bs ([109, 58] ++ Lib.join (l.map mb) [44])) (hl : l.length ≤ 8) (hw : ∀ m ∈ l, wd m.f0 = true ∧ 1 ≤ m.f1 ∧ m.f1 ≤ 1000000) (WS : List ByteArray) (PS : List Z.S38) (INC : Bool) (r : List ByteArray × List Z.S36 × List Z.S38 × Bool × Int)
    (hr : Ev (fun k => Z.goods_Parse.l0 k x0 y (y.length : Int) ((i : Int) + 1) WS l PS INC) r) : Ev (fun k => Z.goods_Parse.l0 k x0 y (y.length : Int) (i : Int) WS [] PS INC) r := by
  have hlen : (Lib.join (l.map mb) [44]).length ≤ 168 := by
    have := join_len 44 20 (l.map mb) (fun x hx => by
      obtain ⟨m, hm, rfl⟩ := List.mem_map.1 hx
      exact mb_len (hw m hm).1 (hw m hm).2)
    rw [List.length_map] at this
    omega
  have hs : Z.strings_Split.f (bs (Lib.join (l.map mb) [44])) (bs [44]) = some ((l.map mb).map bs) := split_eq 44 (l.map mb) (by simpa using hne) (fun x hx h44 => by
    obtain ⟨m, hm, rfl⟩ := List.mem_map.1 hx
    have := mb_bytes (hw m hm).1 44 h44
    rw [show (44 : UInt8).toNat = 44 from rfl] at this
    omega) (by omega)
  refine Ev.step (fun k => by rw [Z.goods_Parse.l0]) ?_
  refine ev_pos (by omega) (ev_pos (by omega) (ev_pos (by omega) ?_))
  rw [rdOf_at, e, toList_data, bs_data, show (⟨#[109, 58]⟩ : ByteArray) = bs [109, 58] from rfl, pre_eq]
  refine ev_neg (by simp) (ev_some (ev_pos (by simp) (ev_pos (by rw [bs_size, List.length_append]; simp; omega) ?_)))
  rw [ex2, show (⟨#[44]⟩ : ByteArray) = bs [44] from rfl, show ([109, 58] ++ Lib.join (l.map mb) [44] : List UInt8).drop 2 = Lib.join (l.map mb) [44] from rfl, hs]
  refine ev_some ?_
  exact loop_m x0 y hy i hi l hl hw WS PS INC r hr l.length 0 (by omega)
theorem fld_p (i : Nat) (hi : i < y.length) (l : List Z.S38) (hne : l ≠ []) (e : at_ y i = bs ([112, 58] ++ Lib.join (l.map pb) [44])) (hl : l.length ≤ 6) (hw : ∀ p ∈ l, wsN p.f0 = true ∧ 1 ≤ p.f1 ∧ p.f1 ≤ 1000000) (WS : List ByteArray) (MS : List Z.S36) (INC : Bool) (r : List ByteArray × List Z.S36 × List Z.S38 × Bool × Int)
    (hr : Ev (fun k => Z.goods_Parse.l0 k x0 y (y.length : Int) ((i : Int) + 1) WS MS l INC) r) : Ev (fun k => Z.goods_Parse.l0 k x0 y (y.length : Int) (i : Int) WS MS [] INC) r := by
  have hlen : (Lib.join (l.map pb) [44]).length ≤ 678 := by
    have := join_len 44 112 (l.map pb) (fun x hx => by
      obtain ⟨m, hm, rfl⟩ := List.mem_map.1 hx
      exact pb_len (hw m hm).1 (hw m hm).2)
    rw [List.length_map] at this
    omega
  have hs : Z.strings_Split.f (bs (Lib.join (l.map pb) [44])) (bs [44]) = some ((l.map pb).map bs) := split_eq 44 (l.map pb) (by simpa using hne) (fun x hx h44 => by
    obtain ⟨m, hm, rfl⟩ := List.mem_map.1 hx
    have := pb_bytes (hw m hm).1 44 h44
    rw [show (44 : UInt8).toNat = 44 from rfl] at this
    omega) (by omega)
  refine Ev.step (fun k => by rw [Z.goods_Parse.l0]) ?_
  refine ev_pos (by omega) (ev_pos (by omega) (ev_pos (by omega) ?_))
  rw [rdOf_at, e, toList_data, bs_data, show (⟨#[109, 58]⟩ : ByteArray) = bs [109, 58] from rfl, pre_eq]
  refine ev_neg (by simp) (ev_some (ev_neg (by simp) ?_))
  rw [show (⟨#[112, 58]⟩ : ByteArray) = bs [112, 58] from rfl, pre_eq]
  refine ev_some (ev_pos (by simp) (ev_pos (by rw [bs_size, List.length_append]; simp; omega) ?_))
  rw [ex2, show (⟨#[44]⟩ : ByteArray) = bs [44] from rfl, show ([112, 58] ++ Lib.join (l.map pb) [44] : List UInt8).drop 2 = Lib.join (l.map pb) [44] from rfl, hs]
  refine ev_some ?_
  exact loop_p x0 y hy i hi l hl hw WS MS INC r hr l.length 0 (by omega)
end
theorem at_app (a b : List ByteArray) (x : ByteArray) (i : Nat) (h : i = a.length) : at_ (a ++ x :: b) i = x := by
  subst h
  unfold at_
  rw [List.getD_eq_getElem?_getD, List.getElem?_append_right (Nat.le_refl _), Nat.sub_self]
  rfl
/-- Parse reads what Format has written. -/
theorem parse_fmt (ws : List ByteArray) (ms : List Z.S36) (ps : List Z.S38) (inc : Bool) (hg : goodE ws ms ps = 0) : Ev (fun k => Z.goods_Parse.f k (bs (fmtL ws ms ps inc))) (ws, ms, ps, inc, 0) := by
  have gv := gv_of hg
  have hfl := fmt_len ws ms ps inc gv
  have hsp : Z.strings_Split.f (bs (fmtL ws ms ps inc)) (bs [32]) = some ((flds ws ms ps inc).map bs) := by
    rw [fmt_flds] at hfl ⊢
    exact split_eq 32 _ (by unfold flds; simp) (flds_bytes ws ms ps inc gv) (by omega)
  have hmw : ∀ m ∈ ms, wd m.f0 = true ∧ 1 ≤ m.f1 ∧ m.f1 ≤ 1000000 := fun m hm => ⟨gv.mw m hm, gv.ms m hm⟩
  have hpw : ∀ p ∈ ps, wsN p.f0 = true ∧ 1 ≤ p.f1 ∧ p.f1 ≤ 1000000 := fun p hp => ⟨gv.pw p hp, gv.ps p hp⟩
  obtain ⟨y, hydef⟩ : ∃ y, y = (fldM ms ++ fldP ps ++ fldI inc).map bs := ⟨_, rfl⟩
  have hM : (fldM ms).length ≤ 1 := by unfold fldM; split <;> simp
  have hP : (fldP ps).length ≤ 1 := by unfold fldP; split <;> simp
  have hI : (fldI inc).length ≤ 1 := by unfold fldI; split <;> simp
  have hylen : y.length = (fldM ms).length + (fldP ps).length + (fldI inc).length := by rw [hydef, List.length_map, List.length_append, List.length_append]
  have hy : y.length ≤ 10 := by omega
  have hend : Ev (fun k => Z.goods_Parse.l0 k (bs (fmtL ws ms ps inc)) y (y.length : Int) ((y.length : Nat) : Int) ws ms ps inc) (ws, ms, ps, inc, 0) := by
    refine Ev.step (fun k => by rw [Z.goods_Parse.l0]) ?_
    refine ev_neg (by omega) ?_
    refine Ev.bind (validate_ev ws ms ps inc) (ev_pos hg ?_)
    refine Ev.bind (format_ev ws ms ps inc) ?_
    rw [if_pos hg]
    exact ev_pos rfl (Ev.now _)
  have hinc : Ev (fun k => Z.goods_Parse.l0 k (bs (fmtL ws ms ps inc)) y (y.length : Int) (((fldM ms).length + (fldP ps).length : Nat) : Int) ws ms ps false) (ws, ms, ps, inc, 0) := by
    by_cases h : inc = true
    · have e : fldI inc = [[105, 110, 99, 111, 109, 112, 108, 101, 116, 101]] := if_pos h
      rw [e] at hylen hydef
      refine fld_i _ y hy _ (by rw [hylen]; simp) ?_ ws ms ps false _ ?_
      · rw [hydef, List.map_append, List.map_cons]
        exact at_app _ _ _ _ (by rw [List.length_map, List.length_append])
      · rw [h] at hend ⊢
        rw [show ((((fldM ms).length + (fldP ps).length : Nat) : Int) + 1) = ((y.length : Nat) : Int) by rw [hylen]; simp]
        exact hend
    · have e : fldI inc = [] := if_neg h
      have hf : inc = false := Bool.eq_false_iff.2 h
      rw [e] at hylen
      rw [hf] at hend ⊢
      rw [show (((fldM ms).length + (fldP ps).length : Nat) : Int) = ((y.length : Nat) : Int) by rw [hylen]; simp]
      exact hend
  have hpar : Ev (fun k => Z.goods_Parse.l0 k (bs (fmtL ws ms ps inc)) y (y.length : Int) (((fldM ms).length : Nat) : Int) ws ms [] false) (ws, ms, ps, inc, 0) := by
    by_cases h : ps = []
    · have e : fldP ps = [] := if_pos h
      rw [e] at hinc
      rw [h] at hinc ⊢
      exact hinc
    · have e : fldP ps = [[112, 58] ++ Lib.join (ps.map pb) [44]] := if_neg h
      rw [e] at hylen hydef hinc
      refine fld_p _ y hy _ (by rw [hylen]; simp; omega) ps h ?_ gv.p6 hpw ws ms false _ ?_
      · rw [hydef, List.append_assoc, List.map_append, List.singleton_append, List.map_cons]
        exact at_app _ _ _ _ (by rw [List.length_map])
      · rw [show ((((fldM ms).length : Nat) : Int) + 1) = (((fldM ms).length + [[112, 58] ++ Lib.join (ps.map pb) [44]].length : Nat) : Int) by simp]
        exact hinc
  have hmat : Ev (fun k => Z.goods_Parse.l0 k (bs (fmtL ws ms ps inc)) y (y.length : Int) 0 ws [] [] false) (ws, ms, ps, inc, 0) := by
    by_cases h : ms = []
    · have e : fldM ms = [] := if_pos h
      rw [e] at hpar
      rw [h] at hpar ⊢
      exact hpar
    · have e : fldM ms = [[109, 58] ++ Lib.join (ms.map mb) [44]] := if_neg h
      rw [e] at hylen hydef hpar
      refine fld_m _ y hy 0 (by rw [hylen]; simp; omega) ms h ?_ gv.m8 hmw ws [] false _ ?_
      · rw [hydef, List.append_assoc, List.singleton_append, List.map_cons]
        exact at_app [] _ _ _ rfl
      · exact hpar
  refine Ev.congr (fun k => by rw [Z.goods_Parse.f]) ?_
  rw [show (⟨#[32]⟩ : ByteArray) = bs [32] from rfl, hsp]
  refine ev_some ?_
  have hlen : ((flds ws ms ps inc).map bs).length = y.length + 1 := by rw [hydef]; unfold flds; rw [List.map_cons, List.length_cons]
  have h0 : rdOf ByteArray.empty ((flds ws ms ps inc).map bs) 0 = bs (Lib.join (wb ws) [43]) := rfl
  refine ev_pos (by omega) ?_
  rw [h0, show (⟨#[43]⟩ : ByteArray) = bs [43] from rfl, split_words gv.w]
  refine ev_some (ev_pos (by omega) (ev_some ?_))
  rw [show ((flds ws ms ps inc).map bs).drop 1 = y by rw [hydef]; rfl]
  exact hmat
theorem sameGood_ev (ws : List ByteArray) (ms : List Z.S36) (ps : List Z.S38) (inc : Bool) (gv : GV ws ms ps) : Ev (fun k => Z.customsref08_SameGood.f k ws ms ps inc ws ms ps inc) true := by
  have hm := gv.m8
  have hp := gv.p6
  have key : ∀ (d i : Nat), i + d = ms.length → Ev (fun k => Z.customsref08_SameGood.l0 k (i : Int) ws ms ps inc ws ms ps inc) true := by
    intro d
    induction d with
    | zero =>
      intro i hi
      refine Ev.step (fun k => by rw [Z.customsref08_SameGood.l0]) ?_
      exact ev_neg (by omega) (Ev.bind (sameParts_ev ps (by omega) (fun p hp2 => by have := (wsN_of (gv.pw p hp2)).2.1; omega)) (Ev.now _))
    | succ d ih =>
      intro i hi
      refine Ev.step (fun k => by rw [Z.customsref08_SameGood.l0]) ?_
      refine ev_pos (by omega) (ev_pos (by omega) (ev_pos (by omega) (ev_neg (by simp) ?_)))
      rw [wrap64_id ((i : Int) + 1) (by omega)]
      exact ih (i + 1) (by omega)
  refine Ev.congr (fun k => by rw [Z.customsref08_SameGood.f]) ?_
  refine Ev.bind (sameStrings_ev ws (by have := (wsN_of gv.w).2.1; omega)) (ev_pos rfl (ev_neg (by simp) ?_))
  refine Ev.step (fun k => by rw [Z.customsref08_SameGood.j0]) ?_
  refine ev_neg (by simp) ?_
  exact key ms.length 0 (by omega)
end Go.Proofs.YtoolggpfgadjlaaDoor.Pure
