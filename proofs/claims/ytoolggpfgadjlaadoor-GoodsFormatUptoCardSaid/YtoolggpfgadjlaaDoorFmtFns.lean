/- What Format and its reference write: one text. Conditions: those each theorem states. -/
import Derived.Test.YtoolggpfgadjlaaDoorStr
import Derived.Test.YtoolggpfgadjlaaDoorMade
import Derived.Test.YtoolggpfgadjlaaDoorZgoodsFormat
import Derived.Test.YtoolggpfgadjlaaDoorZcustomsref08FormatGood
namespace Go.Proofs.YtoolggpfgadjlaaDoor.Pure
open Go.RowKit Go.Proofs.YtoolggpfgadjlaaDoorW.PrintWords Go.Proofs.YtoolggpfgadjlaaDoorW.PrintLast Go.Proofs.YtoolggpfgadjlaaDoorW.PrintMore Go.Proofs.YtoolggpfgadjlaaDoor.Str
set_option linter.unusedVariables false
set_option linter.unusedSimpArgs false
-- the text
def wb (l : List ByteArray) : List (List UInt8) := l.map (·.data.toList)
def mb (m : Z.S36) : List UInt8 := m.f0.data.toList ++ 58 :: Lib.decDigits m.f1.toNat
def pb (p : Z.S38) : List UInt8 := Lib.join (wb p.f0) [43] ++ 58 :: Lib.decDigits p.f1.toNat
def part (h : List UInt8) (l : List (List UInt8)) : List UInt8 := if l = [] then [] else h ++ Lib.join l [44]
def incL (inc : Bool) : List UInt8 := if inc = true then [32, 105, 110, 99, 111, 109, 112, 108, 101, 116, 101] else []
def fmtL (ws : List ByteArray) (ms : List Z.S36) (ps : List Z.S38) (inc : Bool) : List UInt8 :=
  Lib.join (wb ws) [43] ++ part [32, 109, 58] (ms.map mb) ++ part [32, 112, 58] (ps.map pb) ++ incL inc
-- what a description that is accepted has
structure GV (ws : List ByteArray) (ms : List Z.S36) (ps : List Z.S38) : Prop where
  w : wsN ws = true
  m8 : ms.length ≤ 8
  p6 : ps.length ≤ 6
  mw : ∀ m ∈ ms, wd m.f0 = true
  pw : ∀ p ∈ ps, wsN p.f0 = true
  ms : ∀ m ∈ ms, 1 ≤ m.f1 ∧ m.f1 ≤ 1000000
  ps : ∀ p ∈ ps, 1 ≤ p.f1 ∧ p.f1 ≤ 1000000
theorem gv_of {ws : List ByteArray} {ms : List Z.S36} {ps : List Z.S38} (h : goodE ws ms ps = 0) : GV ws ms ps := by
  unfold goodE at h
  by_cases hw : wsN ws = true
  · rw [if_pos hw] at h
    by_cases hl : ms.length > 8 ∨ ps.length > 6
    · rw [if_pos hl] at h; cases h
    · rw [if_neg hl] at h
      by_cases hm : allF (okM ms) ms.length 0 = true
      · rw [if_pos hm] at h
        by_cases hp : allF (okP ps) ps.length 0 = true
        · rw [if_pos hp] at h
          unfold tailE at h
          by_cases hs : (mS ms).all okS = true ∧ (pS ps).all okS = true
          · refine ⟨hw, by omega, by omega, fun m hm2 => ?_, fun p hp2 => ?_, fun m hm2 => ?_, fun p hp2 => ?_⟩
            · obtain ⟨i, hi, rfl⟩ := List.getElem_of_mem hm2
              have := allF_true hm i hi
              unfold okM mN at this
              rw [List.getD_eq_getElem?_getD, List.getElem?_eq_getElem hi] at this
              exact (Bool.and_eq_true _ _ ▸ this).1
            · obtain ⟨i, hi, rfl⟩ := List.getElem_of_mem hp2
              have := allF_true hp i hi
              unfold okP at this
              rw [List.getD_eq_getElem?_getD, List.getElem?_eq_getElem hi] at this
              exact this
            · exact of_decide_eq_true (List.all_eq_true.1 hs.1 m.f1 (List.mem_map_of_mem hm2))
            · exact of_decide_eq_true (List.all_eq_true.1 hs.2 p.f1 (List.mem_map_of_mem hp2))
          · rw [if_neg hs] at h; cases h
        · rw [if_neg hp] at h; cases h
      · rw [if_neg hm] at h; cases h
  · rw [if_neg hw] at h; cases h
theorem wd_size {s : ByteArray} (h : wd s = true) : 1 ≤ s.data.toList.length ∧ s.data.toList.length ≤ 12 := by
  unfold wd at h
  rw [Bool.and_eq_true] at h
  have := of_decide_eq_true h.2
  have e : s.size = s.data.toList.length := by rw [Array.length_toList]; rfl
  omega
theorem wd_letters {s : ByteArray} (h : wd s = true) : ∀ b ∈ s.data.toList, 97 ≤ b.toNat ∧ b.toNat ≤ 122 := by
  unfold wd Z.letters at h
  rw [Bool.and_eq_true] at h
  exact fun b hb => of_decide_eq_true (List.all_eq_true.1 h.1 b hb)
theorem wsN_of {l : List ByteArray} (h : wsN l = true) : 0 < l.length ∧ l.length ≤ 8 ∧ ∀ s ∈ l, wd s = true := by
  unfold wsN wsB at h
  simp only [Bool.and_eq_true, decide_eq_true_eq] at h
  refine ⟨h.2, h.1.2, fun s hs => ?_⟩
  obtain ⟨i, hi, rfl⟩ := List.getElem_of_mem hs
  have := allF_true h.1.1 i hi
  unfold okW at this
  rw [at_get l i hi] at this
  exact (Bool.and_eq_true _ _ ▸ this).1
theorem join_len (c : UInt8) (K : Nat) : ∀ (l : List (List UInt8)), (∀ x ∈ l, x.length ≤ K) → (Lib.join l [c]).length ≤ (K + 1) * l.length
  | [], _ => by simp [Lib.join_nil]
  | [x], h => by rw [Lib.join_one]; have := h x List.mem_cons_self; simp; omega
  | x :: y :: r, h => by
    have h1 := h x List.mem_cons_self
    have h2 := join_len c K (y :: r) (fun z hz => h z (List.mem_cons_of_mem _ hz))
    rw [join_two, List.length_append, List.length_cons]
    have e : (K + 1) * (x :: y :: r).length = (K + 1) * (y :: r).length + (K + 1) := by rw [List.length_cons (a := x), Nat.mul_add, Nat.mul_one]
    omega
theorem wb_len {l : List ByteArray} (h : wsN l = true) : (Lib.join (wb l) [43]).length ≤ 104 := by
  obtain ⟨_, h8, hw⟩ := wsN_of h
  have := join_len 43 12 (wb l) (fun x hx => by
    obtain ⟨s, hs, rfl⟩ := List.mem_map.1 hx
    exact (wd_size (hw s hs)).2)
  rw [show (wb l).length = l.length by simp [wb]] at this
  omega
theorem dec_small {n : Int} (h : 1 ≤ n ∧ n ≤ 1000000) : (Lib.decDigits n.toNat).length ≤ 7 := dec_len 6 n.toNat (by omega)
theorem mb_len {m : Z.S36} (h1 : wd m.f0 = true) (h2 : 1 ≤ m.f1 ∧ m.f1 ≤ 1000000) : (mb m).length ≤ 20 := by
  have a := (wd_size h1).2
  have b := dec_small h2
  unfold mb
  rw [List.length_append, List.length_cons]
  omega
theorem pb_len {p : Z.S38} (h1 : wsN p.f0 = true) (h2 : 1 ≤ p.f1 ∧ p.f1 ≤ 1000000) : (pb p).length ≤ 112 := by
  have a := wb_len h1
  have b := dec_small h2
  unfold pb
  rw [List.length_append, List.length_cons]
  omega
-- the library's functions
theorem itoa_eq {n : Int} (h : 1 ≤ n ∧ n ≤ 1000000) : Z.strconv_Itoa_33.f n = some (bs (Lib.decDigits n.toNat)) := by
  unfold Z.strconv_Itoa_33.f Lib.itoa
  rw [if_pos (by omega), if_neg (by omega)]
  rfl
theorem join_eq (c : UInt8) (l : List ByteArray) (h1 : l.length ≤ 1000) (h2 : (Lib.join (wb l) [c]).length ≤ 100000) : Z.strings_Join.f l (bs [c]) = some (bs (Lib.join (wb l) [c])) := by
  unfold Z.strings_Join.f
  have e : (Lib.join (l.map (·.data.toList)) (bs [c]).data.toList).length = (Lib.join (wb l) [c]).length := rfl
  rw [if_pos ⟨by omega, by rw [e]; omega⟩]
  rfl
theorem dig_e3 (u : Nat) : strOfNums [(wrap64 (48 + Int.tmod (u : Int) 10)) % 256] = bs [UInt8.ofNat (48 + u % 10)] ∧ Int.tdiv (u : Int) 10 = ((u / 10 : Nat) : Int) := by
  have e1 : Int.tmod (u : Int) 10 = ((u % 10 : Nat) : Int) := by rw [Int.tmod_eq_emod_of_nonneg (by omega)]; omega
  have e2 : Int.tdiv (u : Int) 10 = ((u / 10 : Nat) : Int) := by rw [Int.tdiv_eq_ediv_of_nonneg (by omega)]; omega
  refine ⟨?_, e2⟩
  rw [e1, wrap64_id _ (by omega), show ((48 : Int) + ((u % 10 : Nat) : Int)) % 256 = ((48 + u % 10 : Nat) : Int) by omega]
  rfl
theorem digits_loop : ∀ (n u : Nat) (acc : List UInt8), u ≤ n → u ≤ 1000000 → acc.length + n ≤ 100000000 → Ev (fun k => Z.customsref02_Digits.l0 k (u : Int) (bs acc)) (bs (Lib.decDigits u ++ acc)) := by
  intro n
  induction n with
  | zero =>
    intro u acc hu h6 ha
    obtain rfl : u = 0 := by omega
    obtain ⟨e3, e2⟩ := dig_e3 0
    refine Ev.step (fun k => by rw [Z.customsref02_Digits.l0]) ?_
    refine ev_some ?_
    rw [e3, e2, wrap64_id _ (by omega), bs_append]
    refine ev_pos ?_ ?_
    · rw [bs_size, bs_size]; simp; omega
    · refine ev_pos (by omega) (ev_eq (Ev.now _) ?_)
      rw [Lib.decDigits_one (by omega)]
  | succ n ih =>
    intro u acc hu h6 ha
    obtain ⟨e3, e2⟩ := dig_e3 u
    refine Ev.step (fun k => by rw [Z.customsref02_Digits.l0]) ?_
    refine ev_some ?_
    rw [e3, e2, wrap64_id _ (by omega), bs_append]
    refine ev_pos ?_ ?_
    · rw [bs_size, bs_size]; simp; omega
    · by_cases h : u < 10
      · refine ev_pos (by omega) (ev_eq (Ev.now _) ?_)
        rw [Lib.decDigits_one h, show u % 10 = u by omega]
      · refine ev_neg (by omega) (ev_eq (ih (u / 10) _ (by omega) (by omega) ?_) ?_)
        · rw [List.length_append, List.length_singleton]; omega
        · rw [dec_step h, List.append_assoc]
theorem digits_ev {n : Int} (h : 1 ≤ n ∧ n ≤ 1000000) : Ev (fun k => Z.customsref02_Digits.f k n) (bs (Lib.decDigits n.toNat)) := by
  refine Ev.congr (fun k => by rw [Z.customsref02_Digits.f]) ?_
  have := digits_loop n.toNat n.toNat [] (Nat.le_refl _) (by omega) (by simp; omega)
  rw [List.append_nil, show ((n.toNat : Nat) : Int) = n by omega] at this
  exact this
theorem join_snoc (c : UInt8) (x : List UInt8) : ∀ (l : List (List UInt8)), l ≠ [] → Lib.join (l ++ [x]) [c] = Lib.join l [c] ++ c :: x
  | [], h => absurd rfl h
  | [y], _ => by
    show Lib.join (y :: x :: []) [c] = _
    rw [join_two, Lib.join_one, Lib.join_one]
  | y :: z :: r, _ => by
    show Lib.join (y :: z :: (r ++ [x])) [c] = _
    have := join_snoc c x (z :: r) (by simp)
    rw [List.cons_append] at this
    rw [join_two, this, join_two, List.append_assoc]
    rfl
theorem joined_loop (l : List ByteArray) (h8 : l.length ≤ 8) (hw : ∀ s ∈ l, wd s = true) : ∀ (d i : Nat), i + d = l.length → Ev (fun k => Z.customsref08_Joined.l0 k l (bs [43]) (bs (Lib.join (wb (l.take i)) [43])) (i : Int)) (bs (Lib.join (wb l) [43])) := by
  have hlen : ∀ i, (Lib.join (wb (l.take i)) [43]).length ≤ 104 := by
    intro i
    have := join_len 43 12 (wb (l.take i)) (fun x hx => by
      obtain ⟨s, hs, rfl⟩ := List.mem_map.1 hx
      exact (wd_size (hw s (List.mem_of_mem_take hs))).2)
    rw [show (wb (l.take i)).length = min i l.length by simp [wb]] at this
    omega
  intro d
  induction d with
  | zero =>
    intro i hi
    refine Ev.step (fun k => by rw [Z.customsref08_Joined.l0]) ?_
    refine ev_neg (by omega) ?_
    rw [List.take_of_length_le (by omega)]
    exact Ev.now _
  | succ d ih =>
    intro i hi
    have hi2 : i < l.length := by omega
    have hs := wd_size (hw (at_ l i) (by rw [at_get l i hi2]; exact List.getElem_mem hi2))
    have hl := hlen i
    have e1 : at_ l i = bs (at_ l i).data.toList := bs_of _
    have e2 : l.take (i + 1) = l.take i ++ [at_ l i] := by rw [List.take_succ_eq_append_getElem hi2, at_get l i hi2]
    refine Ev.step (fun k => by rw [Z.customsref08_Joined.l0]) ?_
    refine ev_pos (by omega) ?_
    rw [rdOf_at, wrap64_id ((i : Int) + 1) (by omega)]
    by_cases h0 : (i : Int) > 0
    · refine ev_pos h0 (ev_pos ?_ (ev_pos (by omega) ?_))
      · rw [bs_size, bs_size]; simp; omega
      · rw [bs_append]
        refine ev_pos ?_ ?_
        · rw [bs_size, Lib.size_eq (at_ l i), List.length_append]; simp only [List.length_singleton]; omega
        · have := ih (i + 1) (by omega)
          rw [e2, show wb (l.take i ++ [at_ l i]) = wb (l.take i) ++ [(at_ l i).data.toList] by simp [wb], join_snoc 43 _ _ (by
            intro h
            have h2 : (wb (l.take i)).length = min i l.length := by simp [wb]
            rw [h, List.length_nil] at h2
            omega)] at this
          rw [e1, bs_append]
          have e3 : Lib.join (wb (l.take i)) [43] ++ [43] ++ (bs (at_ l i).data.toList).data.toList = Lib.join (wb (l.take i)) [43] ++ 43 :: (at_ l i).data.toList := by rw [List.append_assoc]; rfl
          rw [show (bs (at_ l i).data.toList).data.toList = (at_ l i).data.toList from rfl] at e3
          rw [e3]
          exact this
    · obtain rfl : i = 0 := by omega
      refine ev_neg h0 (ev_pos (by omega) (ev_pos ?_ ?_))
      · rw [bs_size, Lib.size_eq (at_ l 0), show (Lib.join (wb (l.take 0)) [43]).length = 0 from rfl]; omega
      · have := ih 1 (by omega)
        rw [show l.take 1 = [at_ l 0] from e2] at this
        rw [show wb [at_ l 0] = [(at_ l 0).data.toList] from rfl, Lib.join_one] at this
        rw [show bs (Lib.join (wb (l.take 0)) [43]) ++ at_ l 0 = bs (at_ l 0).data.toList by
          rw [show bs (Lib.join (wb (l.take 0)) [43]) = bs [] from rfl]
          conv => lhs; rw [e1]
          rw [bs_append, List.nil_append]]
        exact this
theorem joined_ev {l : List ByteArray} (h : wsN l = true) : Ev (fun k => Z.customsref08_Joined.f k l (bs [43])) (bs (Lib.join (wb l) [43])) := by
  obtain ⟨_, h8, hw⟩ := wsN_of h
  refine Ev.congr (fun k => by rw [Z.customsref08_Joined.f]) ?_
  exact joined_loop l h8 hw l.length 0 (by omega)
-- the program's Format
section
variable (ws : List ByteArray) (ms : List Z.S36) (ps : List Z.S38) (inc : Bool) (gv : GV ws ms ps)
theorem rd36_in (i : Nat) (h : i < ms.length) : Z.rd_T36 ms (i : Int) = ms[i] := by
  unfold Z.rd_T36
  rw [List.getD_eq_getElem?_getD, show ((i : Int)).toNat = i from rfl, List.getElem?_eq_getElem h]
  rfl
theorem rd38_in (i : Nat) (h : i < ps.length) : Z.rd_T38 ps (i : Int) = ps[i] := by
  unfold Z.rd_T38
  rw [List.getD_eq_getElem?_getD, show ((i : Int)).toNat = i from rfl, List.getElem?_eq_getElem h]
  rfl
theorem wb_map_bs (l : List (List UInt8)) : wb (l.map bs) = l := by
  unfold wb
  rw [List.map_map]
  exact List.map_id l
include gv
theorem matsL (i : Nat) : ∀ x ∈ (ms.take i).map mb, x.length ≤ 20 := by
  intro x hx
  obtain ⟨m, hm, rfl⟩ := List.mem_map.1 hx
  have := List.mem_of_mem_take hm
  exact mb_len (gv.mw m this) (gv.ms m this)
theorem partsL (i : Nat) : ∀ x ∈ (ps.take i).map pb, x.length ≤ 112 := by
  intro x hx
  obtain ⟨m, hm, rfl⟩ := List.mem_map.1 hx
  have := List.mem_of_mem_take hm
  exact pb_len (gv.pw m this) (gv.ps m this)
theorem mats_len : (Lib.join (ms.map mb) [44]).length ≤ 168 := by
  have := join_len 44 20 (ms.map mb) (fun x hx => by have := matsL ws ms ps gv ms.length; rw [List.take_length] at this; exact this x hx)
  rw [List.length_map] at this
  have := gv.m8
  omega
theorem parts_len : (Lib.join (ps.map pb) [44]).length ≤ 678 := by
  have := join_len 44 112 (ps.map pb) (fun x hx => by have := partsL ws ms ps gv ps.length; rw [List.take_length] at this; exact this x hx)
  rw [List.length_map] at this
  have := gv.p6
  omega
theorem fmt_l1 (A : List UInt8) (hA : A.length ≤ 1000) : ∀ (d i : Nat), i + d = ps.length → Ev (fun k => Z.goods_Format.l1 k (bs A) (((ps.take i).map pb).map bs) ps (ps.length : Int) (i : Int) ws ms ps inc) (bs (A ++ part [32, 112, 58] (ps.map pb) ++ incL inc)) := by
  have hpl := parts_len ws ms ps gv
  have hp6 := gv.p6
  have tail : ∀ B : List UInt8, B.length ≤ 10000 → Ev (fun k => if inc = true then (if (bs B).size + 11 ≤ 9223372036854775807 then (some (bs B ++ (⟨#[32, 105, 110, 99, 111, 109, 112, 108, 101, 116, 101]⟩ : ByteArray))) else none) else some (bs B)) (bs (B ++ incL inc)) := by
    intro B hB
    cases inc
    · refine ev_neg (by decide) (ev_eq (Ev.now _) ?_)
      rw [show incL false = [] from rfl, List.append_nil]
    · refine ev_pos rfl (ev_pos (by rw [bs_size]; omega) (ev_eq (Ev.now _) ?_))
      exact bs_append _ _
  intro d
  induction d with
  | zero =>
    intro i hi
    refine Ev.step (fun k => by rw [Z.goods_Format.l1]) ?_
    refine ev_neg (by omega) ?_
    rw [List.take_of_length_le (by omega)]
    by_cases hz : ps = []
    · subst hz
      refine ev_neg (by simp) ?_
      rw [show part [32, 112, 58] (([] : List Z.S38).map pb) = [] from rfl, List.append_nil]
      exact tail A (by omega)
    · have hnz : 0 < ps.length := List.length_pos_iff.2 hz
      refine ev_pos (by rw [List.length_map, List.length_map]; omega) ?_
      rw [show (⟨#[44]⟩ : ByteArray) = bs [44] from rfl, join_eq 44 _ (by rw [List.length_map, List.length_map]; omega) (by rw [wb_map_bs]; omega), wb_map_bs, show part [32, 112, 58] (ps.map pb) = [32, 112, 58] ++ Lib.join (ps.map pb) [44] from if_neg (by simpa using hz)]
      refine ev_some (ev_pos (by rw [bs_size]; omega) (ev_pos ?_ ?_))
      · rw [show (⟨#[32, 112, 58]⟩ : ByteArray) = bs [32, 112, 58] from rfl, bs_append, bs_size, bs_size, List.length_append]
        simp only [List.length_cons, List.length_nil]
        omega
      · rw [show (⟨#[32, 112, 58]⟩ : ByteArray) = bs [32, 112, 58] from rfl, bs_append, bs_append]
        exact tail _ (by rw [List.length_append, List.length_append]; simp only [List.length_cons, List.length_nil]; omega)
  | succ d ih =>
    intro i hi
    have hi2 : i < ps.length := by omega
    have hmem := List.getElem_mem hi2
    have hw := gv.pw _ hmem
    have hsh := gv.ps _ hmem
    have hwl := wb_len hw
    have hd := dec_small hsh
    refine Ev.step (fun k => by rw [Z.goods_Format.l1]) ?_
    refine ev_pos (by omega) (ev_pos (by omega) (ev_pos (by omega) ?_))
    rw [rd38_in ps i hi2, show (⟨#[43]⟩ : ByteArray) = bs [43] from rfl, join_eq 43 _ (by have := (wsN_of hw).2.1; omega) (by omega)]
    refine ev_some (ev_pos (by rw [bs_size]; omega) ?_)
    rw [itoa_eq hsh]
    refine ev_some ?_
    rw [show (⟨#[58]⟩ : ByteArray) = bs [58] from rfl, bs_append]
    refine ev_pos (by rw [bs_size, bs_size, List.length_append]; simp only [List.length_singleton]; omega) (ev_pos (by rw [List.length_map, List.length_map, List.length_take]; omega) ?_)
    rw [bs_append, wrap64_id ((i : Int) + 1) (by omega)]
    have := ih (i + 1) (by omega)
    rw [List.take_succ_eq_append_getElem hi2, List.map_append, List.map_append] at this
    rw [show Lib.join (wb ps[i].f0) [43] ++ [58] ++ Lib.decDigits ps[i].f1.toNat = pb ps[i] by unfold pb; rw [List.append_assoc]; rfl]
    exact this
theorem fmt_l0 (A : List UInt8) (hA : A.length ≤ 200) : ∀ (d i : Nat), i + d = ms.length → Ev (fun k => Z.goods_Format.l0 k (bs A) (((ms.take i).map mb).map bs) ms (ms.length : Int) (i : Int) ws ms ps inc) (bs (A ++ part [32, 109, 58] (ms.map mb) ++ part [32, 112, 58] (ps.map pb) ++ incL inc)) := by
  have hml := mats_len ws ms ps gv
  have hm8 := gv.m8
  intro d
  induction d with
  | zero =>
    intro i hi
    refine Ev.step (fun k => by rw [Z.goods_Format.l0]) ?_
    refine ev_neg (by omega) ?_
    rw [List.take_of_length_le (by omega)]
    have go : ∀ B : List UInt8, B.length ≤ 1000 → Ev (fun k => Z.goods_Format.j1 k (bs B) ws ms ps inc) (bs (B ++ part [32, 112, 58] (ps.map pb) ++ incL inc)) := by
      intro B hB
      refine Ev.step (fun k => by rw [Z.goods_Format.j1]) ?_
      exact fmt_l1 ws ms ps inc gv B hB ps.length 0 (by omega)
    by_cases hz : ms = []
    · subst hz
      refine ev_neg (by simp) ?_
      rw [show part [32, 109, 58] (([] : List Z.S36).map mb) = [] from rfl, List.append_nil]
      exact go A (by omega)
    · have hnz : 0 < ms.length := List.length_pos_iff.2 hz
      refine ev_pos (by rw [List.length_map, List.length_map]; omega) ?_
      rw [show (⟨#[44]⟩ : ByteArray) = bs [44] from rfl, join_eq 44 _ (by rw [List.length_map, List.length_map]; omega) (by rw [wb_map_bs]; omega), wb_map_bs]
      refine ev_some (ev_pos (by rw [bs_size]; omega) ?_)
      rw [show (⟨#[32, 109, 58]⟩ : ByteArray) = bs [32, 109, 58] from rfl, bs_append, bs_append]
      refine ev_pos (by rw [bs_size, bs_size, List.length_append]; simp only [List.length_cons, List.length_nil]; omega) ?_
      have := go (A ++ ([32, 109, 58] ++ Lib.join (ms.map mb) [44])) (by rw [List.length_append, List.length_append]; simp only [List.length_cons, List.length_nil]; omega)
      rw [show part [32, 109, 58] (ms.map mb) = [32, 109, 58] ++ Lib.join (ms.map mb) [44] from if_neg (by simpa using hz)]
      exact this
  | succ d ih =>
    intro i hi
    have hi2 : i < ms.length := by omega
    have hmem := List.getElem_mem hi2
    have hw := wd_size (gv.mw _ hmem)
    have hsh := gv.ms _ hmem
    have hd := dec_small hsh
    have e1 : ms[i].f0 = bs ms[i].f0.data.toList := bs_of _
    refine Ev.step (fun k => by rw [Z.goods_Format.l0]) ?_
    refine ev_pos (by omega) (ev_pos (by omega) (ev_pos (by omega) ?_))
    rw [rd36_in ms i hi2, itoa_eq hsh, show (⟨#[58]⟩ : ByteArray) = bs [58] from rfl]
    refine ev_pos (by rw [e1, bs_size]; omega) (ev_some ?_)
    rw [show ms[i].f0 ++ bs [58] ++ bs (Lib.decDigits ms[i].f1.toNat) = bs (mb ms[i]) by
      conv => lhs; rw [e1]
      rw [bs_append, bs_append]
      unfold mb
      rw [List.append_assoc]
      rfl]
    refine ev_pos ?_ (ev_pos (by rw [List.length_map, List.length_map, List.length_take]; omega) ?_)
    · rw [show ms[i].f0 ++ bs [58] = bs (ms[i].f0.data.toList ++ [58]) by
        conv => lhs; rw [e1]
        rw [bs_append], bs_size, bs_size, List.length_append]
      simp only [List.length_singleton]
      omega
    · rw [wrap64_id ((i : Int) + 1) (by omega)]
      have := ih (i + 1) (by omega)
      rw [List.take_succ_eq_append_getElem hi2, List.map_append, List.map_append] at this
      exact this
end
theorem format_ev (ws : List ByteArray) (ms : List Z.S36) (ps : List Z.S38) (inc : Bool) : Ev (fun k => Z.goods_Format.f k ws ms ps inc) (if goodE ws ms ps = 0 then bs (fmtL ws ms ps inc) else bs []) := by
  refine Ev.congr (fun k => by rw [Z.goods_Format.f]) ?_
  refine Ev.bind (validate_ev ws ms ps inc) ?_
  by_cases h : goodE ws ms ps = 0
  · rw [if_pos h]
    have gv := gv_of h
    have hl := wb_len gv.w
    refine ev_pos h ?_
    rw [show (⟨#[43]⟩ : ByteArray) = bs [43] from rfl, join_eq 43 ws (by have := (wsN_of gv.w).2.1; omega) (by omega)]
    refine ev_some ?_
    exact fmt_l0 ws ms ps inc gv _ (by omega) ms.length 0 (by omega)
  · rw [if_neg h]
    exact ev_neg h (Ev.now _)
-- the reference
section
variable (ws : List ByteArray) (ms : List Z.S36) (ps : List Z.S38) (inc : Bool) (gv : GV ws ms ps)
theorem part_next (h : List UInt8) (l : List (List UInt8)) (x : List UInt8) : part h (l ++ [x]) = part h l ++ (if l = [] then h else [44]) ++ x := by
  unfold part
  rw [if_neg (by simp)]
  by_cases hl : l = []
  · subst hl
    rw [if_pos rfl, if_pos rfl, List.nil_append, List.nil_append, Lib.join_one]
  · rw [if_neg hl, if_neg hl, join_snoc 44 x l hl]
    simp
include gv
theorem part_mlen (i : Nat) : (part [32, 109, 58] ((ms.take i).map mb)).length ≤ 171 := by
  unfold part
  split
  · simp
  · have := join_len 44 20 _ (matsL ws ms ps gv i)
    rw [List.length_map, List.length_take] at this
    have := gv.m8
    rw [List.length_append]
    simp only [List.length_cons, List.length_nil]
    have h3 : min i ms.length ≤ 8 := by omega
    have : 21 * min i ms.length ≤ 168 := by omega
    omega
theorem part_plen (i : Nat) : (part [32, 112, 58] ((ps.take i).map pb)).length ≤ 681 := by
  unfold part
  split
  · simp
  · have := join_len 44 112 _ (partsL ws ms ps gv i)
    rw [List.length_map, List.length_take] at this
    have := gv.p6
    rw [List.length_append]
    simp only [List.length_cons, List.length_nil]
    have h3 : min i ps.length ≤ 6 := by omega
    have : 113 * min i ps.length ≤ 678 := by omega
    omega
theorem ref_f1 (A : List UInt8) (hA : A.length ≤ 1000) : ∀ (d i : Nat), i + d = ps.length → Ev (fun k => Z.customsref08_FormatGood.l1 k (bs (A ++ part [32, 112, 58] ((ps.take i).map pb))) (i : Int) ws ms ps inc) (bs (A ++ part [32, 112, 58] (ps.map pb) ++ incL inc)) := by
  have hp6 := gv.p6
  intro d
  induction d with
  | zero =>
    intro i hi
    have hpl := part_plen ws ms ps gv i
    refine Ev.step (fun k => by rw [Z.customsref08_FormatGood.l1]) ?_
    refine ev_neg (by omega) ?_
    rw [List.take_of_length_le (by omega)] at hpl ⊢
    cases inc
    · refine ev_neg (by decide) (ev_eq (Ev.now _) ?_)
      rw [show incL false = [] from rfl, List.append_nil]
    · refine ev_pos rfl (ev_pos (by rw [bs_size, List.length_append]; omega) (ev_eq (Ev.now _) ?_))
      exact bs_append _ _
  | succ d ih =>
    intro i hi
    have hi2 : i < ps.length := by omega
    have hmem := List.getElem_mem hi2
    have hw := gv.pw _ hmem
    have hsh := gv.ps _ hmem
    have hwl := wb_len hw
    have hd := dec_small hsh
    have hpl := part_plen ws ms ps gv i
    have hpb := pb_len hw hsh
    have next := ih (i + 1) (by omega)
    rw [List.take_succ_eq_append_getElem hi2, List.map_append, List.map_singleton, part_next, ← List.append_assoc, ← List.append_assoc] at next
    refine Ev.step (fun k => by rw [Z.customsref08_FormatGood.l1]) ?_
    refine ev_pos (by omega) (ev_pos (by omega) ?_)
    rw [rd38_in ps i hi2, show (⟨#[43]⟩ : ByteArray) = bs [43] from rfl]
    refine Ev.bind (joined_ev hw) ?_
    refine ev_pos (by rw [bs_size]; omega) ?_
    refine Ev.bind (digits_ev hsh) ?_
    rw [show (⟨#[58]⟩ : ByteArray) = bs [58] from rfl, bs_append, bs_append]
    refine ev_pos (by rw [bs_size, bs_size, List.length_append]; simp only [List.length_singleton]; omega) ?_
    rw [show Lib.join (wb ps[i].f0) [43] ++ [58] ++ Lib.decDigits ps[i].f1.toNat = pb ps[i] by unfold pb; rw [List.append_assoc]; rfl, wrap64_id ((i : Int) + 1) (by omega)]
    by_cases h0 : (i : Int) = 0
    · obtain rfl : i = 0 := by omega
      rw [if_pos (by simp)] at next
      refine ev_pos h0 (ev_pos (by rw [bs_size, List.length_append]; omega) ?_)
      rw [show (⟨#[32, 112, 58]⟩ : ByteArray) = bs [32, 112, 58] from rfl, bs_append, bs_append]
      refine ev_pos (by rw [bs_size, bs_size, List.length_append, List.length_append]; simp only [List.length_cons, List.length_nil]; omega) ?_
      exact next
    · have hne : (ps.take i).map pb ≠ [] := by
        intro h
        have h2 : ((ps.take i).map pb).length = min i ps.length := by rw [List.length_map, List.length_take]
        rw [h, List.length_nil] at h2
        omega
      rw [if_neg hne] at next
      refine ev_neg h0 (ev_pos (by rw [bs_size, List.length_append]; omega) ?_)
      rw [show (⟨#[44]⟩ : ByteArray) = bs [44] from rfl, bs_append, bs_append]
      refine ev_pos (by rw [bs_size, bs_size, List.length_append, List.length_append]; simp only [List.length_cons, List.length_nil]; omega) ?_
      exact next
theorem ref_f0 (A : List UInt8) (hA : A.length ≤ 200) : ∀ (d i : Nat), i + d = ms.length → Ev (fun k => Z.customsref08_FormatGood.l0 k (bs (A ++ part [32, 109, 58] ((ms.take i).map mb))) (i : Int) ws ms ps inc) (bs (A ++ part [32, 109, 58] (ms.map mb) ++ part [32, 112, 58] (ps.map pb) ++ incL inc)) := by
  have hm8 := gv.m8
  intro d
  induction d with
  | zero =>
    intro i hi
    have hpl := part_mlen ws ms ps gv i
    refine Ev.step (fun k => by rw [Z.customsref08_FormatGood.l0]) ?_
    refine ev_neg (by omega) ?_
    rw [List.take_of_length_le (by omega)] at hpl ⊢
    have := ref_f1 ws ms ps inc gv (A ++ part [32, 109, 58] (ms.map mb)) (by rw [List.length_append]; omega) ps.length 0 (by omega)
    rw [List.take_zero, show part [32, 112, 58] (([] : List Z.S38).map pb) = [] from rfl, List.append_nil] at this
    exact this
  | succ d ih =>
    intro i hi
    have hi2 : i < ms.length := by omega
    have hmem := List.getElem_mem hi2
    have hw := wd_size (gv.mw _ hmem)
    have hsh := gv.ms _ hmem
    have hd := dec_small hsh
    have hpl := part_mlen ws ms ps gv i
    have e1 : ms[i].f0 = bs ms[i].f0.data.toList := bs_of _
    have next := ih (i + 1) (by omega)
    rw [List.take_succ_eq_append_getElem hi2, List.map_append, List.map_singleton, part_next, ← List.append_assoc, ← List.append_assoc] at next
    refine Ev.step (fun k => by rw [Z.customsref08_FormatGood.l0]) ?_
    refine ev_pos (by omega) (ev_pos (by omega) ?_)
    rw [rd36_in ms i hi2, show (⟨#[58]⟩ : ByteArray) = bs [58] from rfl, show ms[i].f0 ++ bs [58] = bs (ms[i].f0.data.toList ++ [58]) by
        conv => lhs; rw [e1]
        rw [bs_append]]
    refine ev_pos (by rw [e1, bs_size]; omega) (Ev.bind (digits_ev hsh) ?_)
    rw [bs_append]
    refine ev_pos (by rw [bs_size, bs_size, List.length_append]; simp only [List.length_singleton]; omega) ?_
    have hmb := mb_len (gv.mw _ hmem) hsh
    rw [show ms[i].f0.data.toList ++ [58] ++ Lib.decDigits ms[i].f1.toNat = mb ms[i] by unfold mb; rw [List.append_assoc]; rfl, wrap64_id ((i : Int) + 1) (by omega)]
    by_cases h0 : (i : Int) = 0
    · obtain rfl : i = 0 := by omega
      rw [if_pos (by simp)] at next
      refine ev_pos h0 (ev_pos (by rw [bs_size, List.length_append]; omega) ?_)
      rw [show (⟨#[32, 109, 58]⟩ : ByteArray) = bs [32, 109, 58] from rfl, bs_append, bs_append]
      refine ev_pos (by rw [bs_size, bs_size, List.length_append, List.length_append]; simp only [List.length_cons, List.length_nil]; omega) ?_
      exact next
    · have hne : (ms.take i).map mb ≠ [] := by
        intro h
        have h2 : ((ms.take i).map mb).length = min i ms.length := by rw [List.length_map, List.length_take]
        rw [h, List.length_nil] at h2
        omega
      rw [if_neg hne] at next
      refine ev_neg h0 (ev_pos (by rw [bs_size, List.length_append]; omega) ?_)
      rw [show (⟨#[44]⟩ : ByteArray) = bs [44] from rfl, bs_append, bs_append]
      refine ev_pos (by rw [bs_size, bs_size, List.length_append, List.length_append]; simp only [List.length_cons, List.length_nil]; omega) ?_
      exact next
end
theorem rformat_ev (ws : List ByteArray) (ms : List Z.S36) (ps : List Z.S38) (inc : Bool) (hf : FinG ws ms ps) : Ev (fun k => Z.customsref08_FormatGood.f k ws ms ps inc) (if goodE ws ms ps = 0 then bs (fmtL ws ms ps inc) else bs []) := by
  refine Ev.congr (fun k => by rw [Z.customsref08_FormatGood.f]) ?_
  refine Ev.bind (ref_ev ws ms ps inc hf) ?_
  by_cases h : goodE ws ms ps = 0
  · rw [if_pos h]
    have gv := gv_of h
    have hl := wb_len gv.w
    refine ev_pos h ?_
    rw [show (⟨#[43]⟩ : ByteArray) = bs [43] from rfl]
    refine Ev.bind (joined_ev gv.w) ?_
    have := ref_f0 ws ms ps inc gv (Lib.join (wb ws) [43]) (by omega) ms.length 0 (by omega)
    rw [List.take_zero, show part [32, 109, 58] (([] : List Z.S36).map mb) = [] from rfl, List.append_nil] at this
    exact this
  · rw [if_neg h]
    exact ev_neg h (Ev.now _)
end Go.Proofs.YtoolggpfgadjlaaDoor.Pure
