/- Plain facts and what the words' and shares' functions compute. Conditions: those each theorem states. -/
import Derived.Test.YtoolggpfgadjlaaDoorZgoodsValidate
import Derived.Test.YtoolggpfgadjlaaDoorZcustomsref08Words
namespace Go.Proofs.YtoolggpfgadjlaaDoor.Pure
open Go.RowKit Go.Proofs.YtoolggpfgadjlaaDoorW.PrintWords Go.Proofs.YtoolggpfgadjlaaDoorW.PrintLast Go.Proofs.YtoolggpfgadjlaaDoorW.PrintMore
set_option linter.unusedVariables false
set_option linter.unusedSimpArgs false
theorem wrap64_id (n : Int) (h : -9223372036854775808 ≤ n ∧ n ≤ 9223372036854775807) : wrap64 n = n := by unfold wrap64; omega
theorem i64_of {a : Int} (h : (Lit.int .i64 a).wf = true) : -9223372036854775808 ≤ a ∧ a ≤ 9223372036854775807 := by
  simp only [Lit.wf, Bool.and_eq_true, decide_eq_true_eq] at h
  have e1 : IntKind.min .i64 = -9223372036854775808 := by decide
  have e2 : IntKind.max .i64 = 9223372036854775807 := by decide
  omega
theorem ev_pos {α : Type} {c : Prop} [Decidable c] {f g : Nat → Option α} {r : α} (h : c) (hf : Ev f r) : Ev (fun k => if c then f k else g k) r := Ev.congr (fun k => if_pos h) hf
theorem ev_neg {α : Type} {c : Prop} [Decidable c] {f g : Nat → Option α} {r : α} (h : ¬ c) (hf : Ev g r) : Ev (fun k => if c then f k else g k) r := Ev.congr (fun k => if_neg h) hf
theorem ev_some {α β : Type} {a : α} {f : Nat → α → Option β} {r : β} (h : Ev (fun k => f k a) r) : Ev (fun k => (some a).bind (f k)) r := Ev.congr (fun k => rfl) h
theorem ev_now {α : Type} {a : Option α} {r : α} (h : a = some r) : Ev (fun _ => a) r := by subst h; exact Ev.now r
theorem ev_eq {α : Type} {f : Nat → Option α} {r r' : α} (h : Ev f r) (e : r = r') : Ev f r' := e ▸ h
theorem ev_uniq {α : Type} {f : Nat → Option α} {r r' : α} (h : Ev f r) (h' : Ev f r') : r = r' := by
  obtain ⟨K, h⟩ := h
  obtain ⟨K', h'⟩ := h'
  exact Option.some.inj ((h (max K K') (by omega)).symm.trans (h' (max K K') (by omega)))
-- all from i on
def allF (p : Nat → Bool) (n i : Nat) : Bool := decide (∀ j, j < n → i ≤ j → p j = true)
theorem allF_end (p : Nat → Bool) (n i : Nat) (h : n ≤ i) : allF p n i = true := decide_eq_true (fun j h1 h2 => by omega)
theorem allF_step (p : Nat → Bool) (n i : Nat) (h : i < n) : allF p n i = (p i && allF p n (i + 1)) := by
  unfold allF
  rw [Bool.eq_iff_iff]
  simp only [decide_eq_true_eq, Bool.and_eq_true]
  constructor
  · intro hh
    exact ⟨hh i h (Nat.le_refl _), fun j h1 h2 => hh j h1 (by omega)⟩
  · rintro ⟨h1, h2⟩ j hj hi
    by_cases e : j = i
    · subst e; exact h1
    · exact h2 j hj (by omega)
theorem allF_true {p : Nat → Bool} {n : Nat} (h : allF p n 0 = true) : ∀ j, j < n → p j = true := fun j hj => of_decide_eq_true h j hj (Nat.zero_le _)
theorem allF_mk {p : Nat → Bool} {n : Nat} (h : ∀ j, j < n → p j = true) : allF p n 0 = true := decide_eq_true (fun j hj _ => h j hj)
-- words
def wd (s : ByteArray) : Bool := Z.letters s.data.toList && decide (1 ≤ s.size ∧ s.size ≤ 12)
theorem toList_data (s : ByteArray) : s.toList = s.data.toList := ByteArray.toList_eq s
theorem word_eq (s : ByteArray) : Z.goods_word.f s = some (wd s) := by
  unfold Z.goods_word.f wd
  congr 1
  have hz : s.size = s.data.toList.length := by rw [Array.length_toList]; rfl
  by_cases h : s.size = 0
  · have e : s.toList = [] := by rw [toList_data]; exact List.length_eq_zero_iff.1 (by omega)
    rw [e]
    simp [h]
  · have e : s.toList.isEmpty = false := by
      rw [toList_data]
      cases hh : s.data.toList with
      | nil => rw [hh] at hz; exact absurd hz h
      | cons a l => rfl
    rw [e]
    by_cases h2 : s.size ≤ 12
    · simp [h2, show 1 ≤ s.size by omega]
    · simp [h2]
theorem bt_at (s : ByteArray) (i : Nat) (h : i < s.size) : bt s (i : Int) = ((s[i]'h).toNat : Int) := by
  unfold bt
  rw [dif_pos (by simpa using h)]
  rfl
theorem rword_loop (s : ByteArray) (hs : s.size ≤ 140737488351232) : ∀ (d i : Nat), i + d = s.size →
    Ev (fun k => Z.customsref08_Word.l0 k s (i : Int)) (Z.letters (s.data.toList.drop i) && decide (1 ≤ s.size ∧ s.size ≤ 12)) := by
  intro d
  induction d with
  | zero =>
    intro i hi
    refine Ev.step (fun k => by rw [Z.customsref08_Word.l0]) ?_
    refine ev_neg (by omega) ?_
    rw [List.drop_of_length_le (by rw [Array.length_toList]; exact Nat.le_of_eq (show s.size = i by omega)), show Z.letters [] = true from rfl, Bool.true_and]
    by_cases h1 : (s.size : Int) ≥ 1
    · refine ev_pos h1 (ev_eq (Ev.now _) ?_)
      rw [Bool.eq_iff_iff]
      simp only [decide_eq_true_eq]
      omega
    · refine ev_neg h1 (ev_eq (Ev.now _) ?_)
      exact (decide_eq_false (by omega)).symm
  | succ d ih =>
    intro i hi
    have hp : i < s.size := by omega
    refine Ev.step (fun k => by rw [Z.customsref08_Word.l0]) ?_
    refine ev_pos (by omega) (ev_pos (by omega) ?_)
    rw [bt_at s i hp, Z.letters_at s i hp, wrap64_id ((i : Int) + 1) (by omega)]
    by_cases h1 : (((s[i]'hp).toNat : Nat) : Int) < 97
    · refine ev_pos h1 (ev_eq (Ev.now _) ?_)
      rw [decide_eq_false (by omega), Bool.false_and, Bool.false_and]
    · by_cases h2 : (((s[i]'hp).toNat : Nat) : Int) > 122
      · refine ev_neg h1 (ev_pos h2 (ev_eq (Ev.now _) ?_))
        rw [decide_eq_false (by omega), Bool.false_and, Bool.false_and]
      · refine ev_neg h1 (ev_neg h2 ?_)
        rw [decide_eq_true (by omega), Bool.true_and]
        exact ih (i + 1) (by omega)
theorem rword_ev (s : ByteArray) (hs : s.size ≤ 140737488351232) : Ev (fun k => Z.customsref08_Word.f k s) (wd s) := rword_loop s hs s.size 0 (by omega)
-- lists of words
def less (a b : ByteArray) : Bool := Op.bytesLess a.toList b.toList
def at_ (l : List ByteArray) (i : Nat) : ByteArray := l.getD i ByteArray.empty
def okW (l : List ByteArray) (i : Nat) : Bool := wd (at_ l i) && (decide (i = 0) || less (at_ l (i - 1)) (at_ l i))
def wsB (l : List ByteArray) : Bool := allF (okW l) l.length 0 && decide (l.length ≤ 8)
theorem rdOf_at (l : List ByteArray) (i : Nat) : rdOf ByteArray.empty l (i : Int) = at_ l i := rfl
theorem rdOf_pred (l : List ByteArray) (i : Nat) (h : 0 < i) : rdOf ByteArray.empty l ((i : Int) - 1) = at_ l (i - 1) := by
  rw [show ((i : Int) - 1) = ((i - 1 : Nat) : Int) by omega]
  rfl
theorem words_loop (l : List ByteArray) (hl : l.length ≤ 8) : ∀ (d i : Nat), i + d = l.length → Ev (fun k => Z.goods_ValidWords.l0 k l l (l.length : Int) (i : Int)) (allF (okW l) l.length i) := by
  intro d
  induction d with
  | zero =>
    intro i hi
    refine Ev.step (fun k => by rw [Z.goods_ValidWords.l0]) ?_
    rw [allF_end _ _ _ (by omega)]
    exact ev_neg (by omega) (Ev.now _)
  | succ d ih =>
    intro i hi
    refine Ev.step (fun k => by rw [Z.goods_ValidWords.l0]) ?_
    rw [allF_step _ _ _ (by omega)]
    refine ev_pos (by omega) (ev_pos (by omega) (ev_pos (by omega) ?_))
    rw [rdOf_at, word_eq]
    refine ev_some ?_
    unfold okW
    by_cases hw : wd (at_ l i) = true
    · refine ev_pos hw ?_
      rw [hw, Bool.true_and]
      by_cases h0 : 0 < i
      · refine ev_pos (by omega) ?_
        rw [wrap64_id ((i : Int) - 1) (by omega), wrap64_id ((i : Int) + 1) (by omega), rdOf_pred l i h0, decide_eq_false (show ¬ i = 0 by omega), Bool.false_or]
        refine ev_pos (by omega) (ev_pos (by omega) ?_)
        by_cases hs : less (at_ l (i - 1)) (at_ l i) = true
        · refine ev_pos hs ?_
          rw [hs, Bool.true_and]
          exact ih (i + 1) (by omega)
        · refine ev_neg hs ?_
          rw [Bool.eq_false_iff.2 hs, Bool.false_and]
          exact Ev.now _
      · refine ev_neg (by omega) ?_
        rw [wrap64_id ((i : Int) + 1) (by omega), decide_eq_true (show i = 0 by omega), Bool.true_or, Bool.true_and]
        exact ih (i + 1) (by omega)
    · refine ev_neg hw ?_
      rw [Bool.eq_false_iff.2 hw, Bool.false_and, Bool.false_and]
      exact Ev.now _
theorem validWords_ev (l : List ByteArray) : Ev (fun k => Z.goods_ValidWords.f k l) (wsB l) := by
  refine Ev.congr (fun k => by rw [Z.goods_ValidWords.f]) ?_
  unfold wsB
  by_cases h : (l.length : Int) > 8
  · refine ev_pos h ?_
    rw [decide_eq_false (show ¬ l.length ≤ 8 by omega), Bool.and_false]
    exact Ev.now _
  · refine ev_neg h ?_
    rw [decide_eq_true (show l.length ≤ 8 by omega), Bool.and_true]
    exact words_loop l (by omega) l.length 0 (by omega)
def wsN (l : List ByteArray) : Bool := wsB l && decide (0 < l.length)
theorem words_ev (l : List ByteArray) : Ev (fun k => Z.goods_words.f k l) (wsN l) := by
  refine Ev.congr (fun k => by rw [Z.goods_words.f]) ?_
  unfold wsN
  by_cases h : (l.length : Int) > 0
  · refine ev_pos h (Ev.bind (validWords_ev l) ?_)
    rw [decide_eq_true (show 0 < l.length by omega), Bool.and_true]
    exact Ev.now _
  · refine ev_neg h ?_
    rw [decide_eq_false (show ¬ 0 < l.length by omega), Bool.and_false]
    exact Ev.now _
-- strings that are short enough
def FinL (l : List ByteArray) : Prop := l.length ≤ 140737488351232 ∧ ∀ s ∈ l, s.size ≤ 140737488351232
theorem FinL.at_ {l : List ByteArray} (h : FinL l) (i : Nat) : (at_ l i).size ≤ 140737488351232 := by
  unfold Pure.at_
  by_cases hi : i < l.length
  · rw [List.getD_eq_getElem?_getD, List.getElem?_eq_getElem hi]
    exact h.2 _ (List.getElem_mem hi)
  · rw [List.getD_eq_getElem?_getD, List.getElem?_eq_none (by omega)]
    decide
theorem rwords_loop (l : List ByteArray) (hl : FinL l) : ∀ (d i : Nat), i + d = l.length → Ev (fun k => Z.customsref08_Words.l0 k l (i : Int)) (allF (okW l) l.length i && decide (l.length ≤ 8)) := by
  have hl1 := hl.1
  intro d
  induction d with
  | zero =>
    intro i hi
    refine Ev.step (fun k => by rw [Z.customsref08_Words.l0]) ?_
    rw [allF_end _ _ _ (by omega), Bool.true_and]
    refine ev_neg (by omega) (ev_eq (Ev.now _) ?_)
    rw [Bool.eq_iff_iff]
    simp only [decide_eq_true_eq]
    omega
  | succ d ih =>
    intro i hi
    refine Ev.step (fun k => by rw [Z.customsref08_Words.l0]) ?_
    rw [allF_step _ _ _ (by omega)]
    refine ev_pos (by omega) (ev_pos (by omega) ?_)
    rw [rdOf_at]
    refine Ev.bind (rword_ev _ (hl.at_ i)) ?_
    unfold okW
    by_cases hw : wd (Pure.at_ l i) = true
    · refine ev_pos hw ?_
      rw [hw, Bool.true_and]
      by_cases h0 : 0 < i
      · refine ev_pos (by omega) ?_
        rw [wrap64_id ((i : Int) - 1) (by omega), wrap64_id ((i : Int) + 1) (by omega), rdOf_pred l i h0, decide_eq_false (show ¬ i = 0 by omega), Bool.false_or]
        refine ev_pos (by omega) (ev_pos (by omega) ?_)
        by_cases hs : less (Pure.at_ l (i - 1)) (Pure.at_ l i) = true
        · refine ev_pos hs ?_
          rw [hs, Bool.true_and]
          exact ih (i + 1) (by omega)
        · refine ev_neg hs ?_
          rw [Bool.eq_false_iff.2 hs, Bool.false_and]
          exact Ev.now _
      · refine ev_neg (by omega) ?_
        rw [wrap64_id ((i : Int) + 1) (by omega), decide_eq_true (show i = 0 by omega), Bool.true_or, Bool.true_and]
        exact ih (i + 1) (by omega)
    · refine ev_neg hw ?_
      rw [Bool.eq_false_iff.2 hw, Bool.false_and, Bool.false_and]
      exact Ev.now _
theorem rwords_ev (l : List ByteArray) (hl : FinL l) : Ev (fun k => Z.customsref08_Words.f k l) (wsB l) := rwords_loop l hl l.length 0 (by omega)
end Go.Proofs.YtoolggpfgadjlaaDoor.Pure
