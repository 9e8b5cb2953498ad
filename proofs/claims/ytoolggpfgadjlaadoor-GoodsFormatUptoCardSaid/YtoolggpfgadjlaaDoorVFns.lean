/- What Validate and its reference compute: one plain function. Conditions: those each theorem states. -/
import Derived.Test.YtoolggpfgadjlaaDoorBase
import Derived.Test.YtoolggpfgadjlaaDoorZcustomsref08Good
namespace Go.Proofs.YtoolggpfgadjlaaDoor.Pure
open Go.RowKit Go.Proofs.YtoolggpfgadjlaaDoorW.PrintWords Go.Proofs.YtoolggpfgadjlaaDoorW.PrintLast Go.Proofs.YtoolggpfgadjlaaDoorW.PrintMore
set_option linter.unusedVariables false
set_option linter.unusedSimpArgs false
-- shares
def okS (x : Int) : Bool := decide (1 ≤ x ∧ x ≤ 1000000)
def sumI : List Int → Int
  | [] => 0
  | x :: l => x + sumI l
theorem sumI_append (l m : List Int) : sumI (l ++ m) = sumI l + sumI m := by
  induction l with
  | nil => simp [sumI]
  | cons x l ih => simp only [List.cons_append, sumI, ih]; omega
theorem sumI_range (l : List Int) (h : l.all okS = true) : 0 ≤ sumI l ∧ sumI l ≤ 1000000 * l.length := by
  induction l with
  | nil => simp [sumI]
  | cons x l ih =>
    rw [List.all_cons, Bool.and_eq_true] at h
    have h1 := of_decide_eq_true h.1
    have h2 := ih h.2
    simp only [sumI, List.length_cons]
    omega
theorem drop_rd (l : List Int) (i : Nat) (h : i < l.length) : l.drop i = rd l (i : Int) :: l.drop (i + 1) := by
  rw [List.drop_eq_getElem_cons h]
  congr 1
  unfold rd
  rw [List.getD_eq_getElem?_getD, show ((i : Int)).toNat = i from rfl, List.getElem?_eq_getElem h]
  rfl
def shR (l : List Int) : Bool × Bool := if l.all okS = true then (true, decide (l = [] ∨ sumI l = 1000000)) else (false, false)
theorem shares_loop (l : List Int) (hl : l.length ≤ 1000) : ∀ (d i : Nat) (s : Int), i + d = l.length → 0 ≤ s → s ≤ 1000000 * i →
    Ev (fun k => Z.goods_shares.l0 k l s l (l.length : Int) (i : Int)) (if (l.drop i).all okS = true then (true, decide (l = [] ∨ s + sumI (l.drop i) = 1000000)) else (false, false)) := by
  intro d
  induction d with
  | zero =>
    intro i s hi h0 h1
    refine Ev.step (fun k => by rw [Z.goods_shares.l0]) ?_
    refine ev_neg (by omega) ?_
    rw [List.drop_of_length_le (by omega)]
    by_cases hz : (l.length : Int) = 0
    · refine ev_pos hz (ev_eq (Ev.now _) ?_)
      have : l = [] := List.length_eq_zero_iff.1 (by omega)
      simp [this]
    · refine ev_neg hz (ev_eq (Ev.now _) ?_)
      have : ¬ l = [] := fun h => hz (by rw [h]; rfl)
      simp [this, sumI]
      rw [Bool.eq_iff_iff]
      simp
  | succ d ih =>
    intro i s hi h0 h1
    refine Ev.step (fun k => by rw [Z.goods_shares.l0]) ?_
    refine ev_pos (by omega) (ev_pos (by omega) (ev_pos (by omega) ?_))
    rw [drop_rd l i (by omega), List.all_cons]
    by_cases hb : okS (rd l (i : Int)) = true
    · have hb1 := of_decide_eq_true hb
      refine ev_neg (by omega) (ev_neg (by omega) ?_)
      rw [wrap64_id (s + rd l (i : Int)) (by omega), wrap64_id ((i : Int) + 1) (by omega), hb, Bool.true_and]
      rw [show s + sumI (rd l (i : Int) :: l.drop (i + 1)) = (s + rd l (i : Int)) + sumI (l.drop (i + 1)) by simp only [sumI]; omega]
      exact ih (i + 1) _ (by omega) (by omega) (by omega)
    · have hb1 := of_decide_eq_false (Bool.eq_false_iff.2 hb)
      rw [Bool.eq_false_iff.2 hb, Bool.false_and, if_neg (by decide)]
      by_cases h2 : rd l (i : Int) < 1
      · exact ev_pos h2 (Ev.now _)
      · exact ev_neg h2 (ev_pos (by omega) (Ev.now _))
theorem shares_ev (l : List Int) (hl : l.length ≤ 1000) : Ev (fun k => Z.goods_shares.f k l) (shR l) := by
  refine ev_eq (shares_loop l hl l.length 0 0 (by omega) (by omega) (by omega)) ?_
  simp [shR]
-- materials and parts
def mN (l : List Z.S36) (i : Nat) : ByteArray := (l.getD i Z.z36).f0
def okM (l : List Z.S36) (i : Nat) : Bool := wd (mN l i) && (decide (i = 0) || less (mN l (i - 1)) (mN l i))
def okP (l : List Z.S38) (i : Nat) : Bool := wsN (l.getD i Z.z38).f0
theorem rd36_at (l : List Z.S36) (i : Nat) : (Z.rd_T36 l (i : Int)).f0 = mN l i := rfl
theorem rd36_pred (l : List Z.S36) (i : Nat) (h : 0 < i) : (Z.rd_T36 l ((i : Int) - 1)).f0 = mN l (i - 1) := by
  rw [show ((i : Int) - 1) = ((i - 1 : Nat) : Int) by omega]
  rfl
theorem take36 (l : List Z.S36) (i : Nat) (h : i < l.length) : (l.take i).map (·.f1) ++ [(Z.rd_T36 l (i : Int)).f1] = (l.take (i + 1)).map (·.f1) := by
  rw [List.take_succ_eq_append_getElem h, List.map_append]
  congr 1
  unfold Z.rd_T36
  rw [List.getD_eq_getElem?_getD, show ((i : Int)).toNat = i from rfl, List.getElem?_eq_getElem h]
  rfl
theorem take38 (l : List Z.S38) (i : Nat) (h : i < l.length) : (l.take i).map (·.f1) ++ [(Z.rd_T38 l (i : Int)).f1] = (l.take (i + 1)).map (·.f1) := by
  rw [List.take_succ_eq_append_getElem h, List.map_append]
  congr 1
  unfold Z.rd_T38
  rw [List.getD_eq_getElem?_getD, show ((i : Int)).toNat = i from rfl, List.getElem?_eq_getElem h]
  rfl
def mS (l : List Z.S36) : List Int := l.map (·.f1)
def pS (l : List Z.S38) : List Int := l.map (·.f1)
def tailE (xs ys : List Int) : Int := if xs.all okS = true ∧ ys.all okS = true then (if (xs = [] ∨ sumI xs = 1000000) ∧ (ys = [] ∨ sumI ys = 1000000) then 0 else 1) else 2
def goodE (ws : List ByteArray) (ms : List Z.S36) (ps : List Z.S38) : Int :=
  if wsN ws = true then (if ms.length > 8 ∨ ps.length > 6 then 8 else if allF (okM ms) ms.length 0 = true then (if allF (okP ps) ps.length 0 = true then tailE (mS ms) (pS ps) else 1) else 1) else 1
theorem j3_ev (x y z : Bool) : Ev (fun k => Z.goods_Validate.j3 k x y z) (if z = true then 2 else if x = true ∧ y = true then 0 else 1) := by
  refine Ev.step (fun k => by rw [Z.goods_Validate.j3]) ?_
  cases z <;> cases x <;> cases y <;> exact Ev.now _
theorem validate_parts (xs : List Int) (hx : xs.length ≤ 1000) (ps : List Z.S38) (hp : ps.length ≤ 1000) : ∀ (d i : Nat), i + d = ps.length →
    Ev (fun k => Z.goods_Validate.l1 k xs ((ps.take i).map (·.f1)) ps (ps.length : Int) (i : Int)) (if allF (okP ps) ps.length i = true then tailE xs (pS ps) else 1) := by
  intro d
  induction d with
  | zero =>
    intro i hi
    refine Ev.step (fun k => by rw [Z.goods_Validate.l1]) ?_
    rw [allF_end _ _ _ (by omega), if_pos rfl, List.take_of_length_le (by omega)]
    refine ev_neg (by omega) (Ev.bind (shares_ev xs hx) (Ev.bind (shares_ev _ (by rw [List.length_map]; exact hp)) ?_))
    unfold shR tailE pS
    by_cases h1 : xs.all okS = true
    · by_cases h2 : (ps.map (·.f1)).all okS = true
      · rw [if_pos h1, if_pos h2, if_pos ⟨h1, h2⟩]
        refine ev_pos rfl (ev_eq (j3_ev _ _ _) ?_)
        simp
      · rw [if_pos h1, if_neg h2, if_neg (fun h => h2 h.2)]
        refine ev_pos rfl (ev_eq (j3_ev _ _ _) ?_)
        simp
    · rw [if_neg h1, if_neg (show ¬ (xs.all okS = true ∧ (ps.map (·.f1)).all okS = true) from fun h => h1 h.1)]
      refine ev_neg (by decide) (ev_eq (j3_ev _ _ _) ?_)
      simp
  | succ d ih =>
    intro i hi
    refine Ev.step (fun k => by rw [Z.goods_Validate.l1]) ?_
    rw [allF_step _ _ _ (by omega)]
    refine ev_pos (by omega) (ev_pos (by omega) (ev_pos (by omega) (Ev.bind (words_ev _) ?_)))
    show Ev _ (if (wsN (Z.rd_T38 ps (i : Int)).f0 && allF (okP ps) ps.length (i + 1)) = true then tailE xs (pS ps) else 1)
    by_cases hw : wsN (Z.rd_T38 ps (i : Int)).f0 = true
    · refine ev_pos hw (ev_pos (by rw [List.length_map, List.length_take]; omega) ?_)
      rw [hw, Bool.true_and, take38 ps i (by omega), wrap64_id ((i : Int) + 1) (by omega)]
      exact ih (i + 1) (by omega)
    · refine ev_neg hw ?_
      rw [Bool.eq_false_iff.2 hw, Bool.false_and, if_neg (by decide)]
      exact Ev.now _
theorem validate_mats (ws : List ByteArray) (b : Bool) (ms : List Z.S36) (hm : ms.length ≤ 1000) (ps : List Z.S38) (hp : ps.length ≤ 1000) : ∀ (d i : Nat), i + d = ms.length →
    Ev (fun k => Z.goods_Validate.l0 k ((ms.take i).map (·.f1)) ms (ms.length : Int) (i : Int) ws ms ps b) (if allF (okM ms) ms.length i = true then (if allF (okP ps) ps.length 0 = true then tailE (mS ms) (pS ps) else 1) else 1) := by
  intro d
  induction d with
  | zero =>
    intro i hi
    refine Ev.step (fun k => by rw [Z.goods_Validate.l0]) ?_
    rw [allF_end _ _ _ (by omega), if_pos rfl, List.take_of_length_le (by omega)]
    exact ev_neg (by omega) (validate_parts (ms.map (·.f1)) (by rw [List.length_map]; exact hm) ps hp ps.length 0 (by omega))
  | succ d ih =>
    intro i hi
    refine Ev.step (fun k => by rw [Z.goods_Validate.l0]) ?_
    rw [allF_step _ _ _ (by omega)]
    refine ev_pos (by omega) (ev_pos (by omega) (ev_pos (by omega) ?_))
    rw [rd36_at, word_eq]
    refine ev_some ?_
    unfold okM
    by_cases hw : wd (mN ms i) = true
    · refine ev_pos hw ?_
      rw [hw, Bool.true_and]
      by_cases h0 : 0 < i
      · refine ev_pos (by omega) ?_
        rw [wrap64_id ((i : Int) - 1) (by omega), wrap64_id ((i : Int) + 1) (by omega), rd36_pred ms i h0, decide_eq_false (show ¬ i = 0 by omega), Bool.false_or]
        refine ev_pos (by omega) (ev_pos (by omega) ?_)
        by_cases hs : less (mN ms (i - 1)) (mN ms i) = true
        · refine ev_pos hs (ev_pos (by rw [List.length_map, List.length_take]; omega) ?_)
          rw [hs, Bool.true_and, take36 ms i (by omega)]
          exact ih (i + 1) (by omega)
        · refine ev_neg hs ?_
          rw [Bool.eq_false_iff.2 hs, Bool.false_and, if_neg (by decide)]
          exact Ev.now _
      · refine ev_neg (by omega) (ev_pos (by rw [List.length_map, List.length_take]; omega) ?_)
        rw [wrap64_id ((i : Int) + 1) (by omega), decide_eq_true (show i = 0 by omega), Bool.true_or, Bool.true_and, take36 ms i (by omega)]
        exact ih (i + 1) (by omega)
    · refine ev_neg hw ?_
      rw [Bool.eq_false_iff.2 hw, Bool.false_and, Bool.false_and, if_neg (by decide)]
      exact Ev.now _
theorem validate_ev (ws : List ByteArray) (ms : List Z.S36) (ps : List Z.S38) (b : Bool) : Ev (fun k => Z.goods_Validate.f k ws ms ps b) (goodE ws ms ps) := by
  refine Ev.congr (fun k => by rw [Z.goods_Validate.f]) (Ev.bind (words_ev ws) ?_)
  unfold goodE
  by_cases hw : wsN ws = true
  · rw [if_pos hw]
    refine ev_pos hw ?_
    by_cases h1 : (ms.length : Int) > 8
    · rw [if_pos (.inl (by omega))]
      refine ev_pos h1 (Ev.step (fun k => by rw [Z.goods_Validate.j0]) ?_)
      exact ev_pos rfl (Ev.now _)
    · refine ev_neg h1 (Ev.step (fun k => by rw [Z.goods_Validate.j0]) ?_)
      by_cases h2 : (ps.length : Int) > 6
      · rw [if_pos (.inr (by omega))]
        exact ev_pos (decide_eq_true h2) (Ev.now _)
      · rw [if_neg (by omega)]
        refine ev_neg (by rw [decide_eq_false h2]; decide) ?_
        exact validate_mats ws b ms (by omega) ps (by omega) ms.length 0 (by omega)
  · rw [if_neg hw]
    exact ev_neg hw (Ev.now _)
-- the reference
def farM (l : List Int) : Bool := !(l.all okS)
theorem all_drop_step (l : List Int) (i : Nat) (h : i < l.length) : (l.drop i).all okS = (okS (rd l (i : Int)) && (l.drop (i + 1)).all okS) := by rw [drop_rd l i h, List.all_cons]
theorem rd_map36 (l : List Z.S36) (i : Nat) (h : i < l.length) : rd (mS l) (i : Int) = (Z.rd_T36 l (i : Int)).f1 := by
  unfold rd mS Z.rd_T36
  rw [List.getD_eq_getElem?_getD, List.getD_eq_getElem?_getD, show ((i : Int)).toNat = i from rfl, List.getElem?_map, List.getElem?_eq_getElem h]
  rfl
theorem rd_map38 (l : List Z.S38) (i : Nat) (h : i < l.length) : rd (pS l) (i : Int) = (Z.rd_T38 l (i : Int)).f1 := by
  unfold rd pS Z.rd_T38
  rw [List.getD_eq_getElem?_getD, List.getD_eq_getElem?_getD, show ((i : Int)).toNat = i from rfl, List.getElem?_map, List.getElem?_eq_getElem h]
  rfl
section
variable (ws : List ByteArray) (b : Bool) (ms : List Z.S36) (ps : List Z.S38) (hm : ms.length ≤ 8) (hp : ps.length ≤ 6)
def lastE (x y : Int) : Int := if 0 < ms.length ∧ x ≠ 1000000 ∨ 0 < ps.length ∧ y ≠ 1000000 then 1 else 0
include hm hp
theorem ref_l4 (x : Int) (ha : (pS ps).all okS = true) : ∀ (d i : Nat) (y : Int), i + d = ps.length → 0 ≤ y → y ≤ 1000000 * i → Ev (fun k => Z.customsref08_Good.l4 k x y (i : Int) ws ms ps b) (lastE ms ps x (y + sumI ((pS ps).drop i))) := by
  have hpl : (pS ps).length = ps.length := by simp [pS]
  intro d
  induction d with
  | zero =>
    intro i y hi h0 h1
    refine Ev.step (fun k => by rw [Z.customsref08_Good.l4]) (ev_neg (by omega) ?_)
    rw [List.drop_of_length_le (by omega), show y + sumI [] = y by simp [sumI]]
    unfold lastE
    by_cases m0 : (ms.length : Int) > 0
    · refine ev_pos m0 ?_
      by_cases hx : x = 1000000
      · refine ev_pos hx ?_
        by_cases p0 : (ps.length : Int) > 0
        · refine ev_pos p0 ?_
          by_cases hy : y = 1000000
          · exact ev_pos hy (ev_eq (Ev.now _) (by rw [if_neg (by omega)]))
          · exact ev_neg hy (ev_eq (Ev.now _) (by rw [if_pos (by omega)]))
        · exact ev_neg p0 (ev_eq (Ev.now _) (by rw [if_neg (by omega)]))
      · exact ev_neg hx (ev_eq (Ev.now _) (by rw [if_pos (by omega)]))
    · refine ev_neg m0 ?_
      by_cases p0 : (ps.length : Int) > 0
      · refine ev_pos p0 ?_
        by_cases hy : y = 1000000
        · exact ev_pos hy (ev_eq (Ev.now _) (by rw [if_neg (by omega)]))
        · exact ev_neg hy (ev_eq (Ev.now _) (by rw [if_pos (by omega)]))
      · exact ev_neg p0 (ev_eq (Ev.now _) (by rw [if_neg (by omega)]))
  | succ d ih =>
    intro i y hi h0 h1
    have hr : 1 ≤ rd (pS ps) (i : Int) ∧ rd (pS ps) (i : Int) ≤ 1000000 := by
      have h2 := List.all_eq_true.1 ha (rd (pS ps) (i : Int)) (by
        unfold rd
        rw [List.getD_eq_getElem?_getD, show ((i : Int)).toNat = i from rfl, List.getElem?_eq_getElem (by omega)]
        exact List.getElem_mem _)
      exact of_decide_eq_true h2
    refine Ev.step (fun k => by rw [Z.customsref08_Good.l4]) (ev_pos (by omega) (ev_pos (by omega) ?_))
    rw [drop_rd (pS ps) i (by omega), rd_map38 ps i (by omega)]
    rw [rd_map38 ps i (by omega)] at hr
    rw [wrap64_id (y + _) (by omega), wrap64_id ((i : Int) + 1) (by omega), show ∀ z : Int, ∀ l, y + sumI (z :: l) = (y + z) + sumI l from fun z l => by simp only [sumI]; omega]
    exact ih (i + 1) _ (by omega) (by omega) (by omega)
theorem ref_l3 (y : Int) (hy : y = 0) (ha : (pS ps).all okS = true) (hb : (mS ms).all okS = true) : ∀ (d i : Nat) (x : Int), i + d = ms.length → 0 ≤ x → x ≤ 1000000 * i → Ev (fun k => Z.customsref08_Good.l3 k x y (i : Int) ws ms ps b) (lastE ms ps (x + sumI ((mS ms).drop i)) (sumI (pS ps))) := by
  have hml : (mS ms).length = ms.length := by simp [mS]
  intro d
  induction d with
  | zero =>
    intro i x hi h0 h1
    refine Ev.step (fun k => by rw [Z.customsref08_Good.l3]) (ev_neg (by omega) ?_)
    rw [List.drop_of_length_le (by omega), show x + sumI [] = x by simp [sumI]]
    refine ev_eq (ref_l4 ws b ms ps hm hp x ha ps.length 0 y (by omega) (by omega) (by omega)) ?_
    rw [hy, List.drop_zero, Int.zero_add]
  | succ d ih =>
    intro i x hi h0 h1
    have hr : 1 ≤ rd (mS ms) (i : Int) ∧ rd (mS ms) (i : Int) ≤ 1000000 := by
      have h2 := List.all_eq_true.1 hb (rd (mS ms) (i : Int)) (by
        unfold rd
        rw [List.getD_eq_getElem?_getD, show ((i : Int)).toNat = i from rfl, List.getElem?_eq_getElem (by omega)]
        exact List.getElem_mem _)
      exact of_decide_eq_true h2
    refine Ev.step (fun k => by rw [Z.customsref08_Good.l3]) (ev_pos (by omega) (ev_pos (by omega) ?_))
    rw [drop_rd (mS ms) i (by omega), rd_map36 ms i (by omega)]
    rw [rd_map36 ms i (by omega)] at hr
    rw [wrap64_id (x + _) (by omega), wrap64_id ((i : Int) + 1) (by omega), show ∀ z : Int, ∀ l, x + sumI (z :: l) = (x + z) + sumI l from fun z l => by simp only [sumI]; omega]
    exact ih (i + 1) _ (by omega) (by omega) (by omega)
theorem lastE_tail (ha : (pS ps).all okS = true) (hb : (mS ms).all okS = true) : lastE ms ps (sumI (mS ms)) (sumI (pS ps)) = tailE (mS ms) (pS ps) := by
  have e1 : mS ms = [] ↔ ¬ 0 < ms.length := by unfold mS; rw [List.map_eq_nil_iff, List.length_pos_iff]; simp
  have e2 : pS ps = [] ↔ ¬ 0 < ps.length := by unfold pS; rw [List.map_eq_nil_iff, List.length_pos_iff]; simp
  unfold lastE tailE
  rw [if_pos (show (mS ms).all okS = true ∧ (pS ps).all okS = true from ⟨hb, ha⟩)]
  by_cases h : 0 < ms.length ∧ sumI (mS ms) ≠ 1000000 ∨ 0 < ps.length ∧ sumI (pS ps) ≠ 1000000
  · rw [if_pos h, if_neg (by rw [e1, e2]; omega)]
  · rw [if_neg h, if_pos (by rw [e1, e2]; omega)]
theorem ref_l2 : ∀ (d i : Nat) (far : Bool), i + d = ms.length → (far = false → (pS ps).all okS = true ∧ ((mS ms).take i).all okS = true) → (far = true → ¬ ((mS ms).all okS = true ∧ (pS ps).all okS = true)) →
    Ev (fun k => Z.customsref08_Good.l2 k 0 0 far (i : Int) ws ms ps b) (tailE (mS ms) (pS ps)) := by
  have hml : (mS ms).length = ms.length := by simp [mS]
  intro d
  induction d with
  | zero =>
    intro i far hi hf ht
    refine Ev.step (fun k => by rw [Z.customsref08_Good.l2]) (ev_neg (by omega) ?_)
    cases far
    · obtain ⟨h1, h2⟩ := hf rfl
      rw [List.take_of_length_le (by omega)] at h2
      refine ev_neg (by decide) (ev_eq (ref_l3 ws b ms ps hm hp 0 rfl h1 h2 ms.length 0 0 (by omega) (by omega) (by omega)) ?_)
      rw [List.drop_zero, Int.zero_add]
      exact lastE_tail ms ps hm hp h1 h2
    · refine ev_pos rfl (ev_eq (Ev.now _) ?_)
      unfold tailE
      rw [if_neg (ht rfl)]
  | succ d ih =>
    intro i far hi hf ht
    refine Ev.step (fun k => by rw [Z.customsref08_Good.l2]) (ev_pos (by omega) ?_)
    rw [wrap64_id ((i : Int) + 1) (by omega)]
    have hmem : rd (mS ms) (i : Int) ∈ mS ms := by
      unfold rd
      rw [List.getD_eq_getElem?_getD, show ((i : Int)).toNat = i from rfl, List.getElem?_eq_getElem (by omega)]
      exact List.getElem_mem _
    have hrd := rd_map36 ms i (by omega)
    cases far
    · obtain ⟨h1, h2⟩ := hf rfl
      refine ev_neg (by decide) (ev_pos (by omega) ?_)
      rw [← hrd]
      by_cases c1 : rd (mS ms) (i : Int) < 1
      · refine ev_pos c1 (ih (i + 1) true (by omega) (fun h => by cases h) (fun _ h => ?_))
        have h3 := of_decide_eq_true (List.all_eq_true.1 h.1 _ hmem)
        omega
      · refine ev_neg c1 ?_
        by_cases c2 : rd (mS ms) (i : Int) > 1000000
        · rw [decide_eq_true c2]
          refine ih (i + 1) true (by omega) (fun h => by cases h) (fun _ h => ?_)
          have h3 := of_decide_eq_true (List.all_eq_true.1 h.1 _ hmem)
          omega
        · rw [decide_eq_false c2]
          refine ih (i + 1) false (by omega) (fun _ => ⟨h1, ?_⟩) (fun h => by cases h)
          have e : (mS ms).take (i + 1) = (mS ms).take i ++ [rd (mS ms) (i : Int)] := by
            rw [List.take_succ_eq_append_getElem (by omega)]
            congr 2
            unfold rd
            rw [List.getD_eq_getElem?_getD, show ((i : Int)).toNat = i from rfl, List.getElem?_eq_getElem (by omega)]
            rfl
          rw [e, List.all_append, h2, Bool.true_and, List.all_cons, List.all_nil, Bool.and_true]
          exact decide_eq_true (by omega)
    · exact ev_pos rfl (ih (i + 1) true (by omega) (fun h => by cases h) ht)
theorem ref_l1 (hf9 : ∀ p ∈ ps, FinL p.f0) : ∀ (d i : Nat) (far : Bool), i + d = ps.length → (far = false → ((pS ps).take i).all okS = true) → (far = true → ¬ (pS ps).all okS = true) →
    Ev (fun k => Z.customsref08_Good.l1 k 0 0 far (i : Int) ws ms ps b) (if allF (okP ps) ps.length i = true then tailE (mS ms) (pS ps) else 1) := by
  have hpl : (pS ps).length = ps.length := by simp [pS]
  intro d
  induction d with
  | zero =>
    intro i far hi hf ht
    refine Ev.step (fun k => by rw [Z.customsref08_Good.l1]) (ev_neg (by omega) ?_)
    rw [allF_end _ _ _ (by omega), if_pos rfl]
    refine ref_l2 ws b ms ps hm hp ms.length 0 far (by omega) (fun h => ⟨?_, by simp⟩) (fun h h2 => ht h h2.2)
    have h2 := hf h
    rwa [List.take_of_length_le (by omega)] at h2
  | succ d ih =>
    intro i far hi hf ht
    refine Ev.step (fun k => by rw [Z.customsref08_Good.l1]) (ev_pos (by omega) (ev_pos (by omega) ?_))
    have hmem : rd (pS ps) (i : Int) ∈ pS ps := by
      unfold rd
      rw [List.getD_eq_getElem?_getD, show ((i : Int)).toNat = i from rfl, List.getElem?_eq_getElem (by omega)]
      exact List.getElem_mem _
    have hrd := rd_map38 ps i (by omega)
    have hfi : FinL (Z.rd_T38 ps (i : Int)).f0 := by
      unfold Z.rd_T38
      rw [List.getD_eq_getElem?_getD, show ((i : Int)).toNat = i from rfl, List.getElem?_eq_getElem (by omega)]
      exact hf9 _ (List.getElem_mem _)
    refine Ev.bind (rwords_ev _ hfi) ?_
    rw [allF_step _ _ _ (by omega), wrap64_id ((i : Int) + 1) (by omega)]
    show Ev _ (if (wsN (Z.rd_T38 ps (i : Int)).f0 && allF (okP ps) ps.length (i + 1)) = true then tailE (mS ms) (pS ps) else 1)
    unfold wsN
    by_cases hw : wsB (Z.rd_T38 ps (i : Int)).f0 = true
    · refine ev_pos hw ?_
      rw [hw, Bool.true_and]
      by_cases hz : (((Z.rd_T38 ps (i : Int)).f0).length : Int) = 0
      · refine ev_pos hz (ev_eq (Ev.now _) ?_)
        rw [decide_eq_false (by omega), Bool.false_and, if_neg (by decide)]
      · refine ev_neg hz ?_
        rw [decide_eq_true (show 0 < ((Z.rd_T38 ps (i : Int)).f0).length by omega), Bool.true_and]
        cases far
        · have h2 := hf rfl
          refine ev_neg (by decide) ?_
          rw [← hrd]
          by_cases c1 : rd (pS ps) (i : Int) < 1
          · refine ev_pos c1 (ih (i + 1) true (by omega) (fun h => by cases h) (fun _ h => ?_))
            have h3 := of_decide_eq_true (List.all_eq_true.1 h _ hmem)
            omega
          · refine ev_neg c1 ?_
            by_cases c2 : rd (pS ps) (i : Int) > 1000000
            · rw [decide_eq_true c2]
              refine ih (i + 1) true (by omega) (fun h => by cases h) (fun _ h => ?_)
              have h3 := of_decide_eq_true (List.all_eq_true.1 h _ hmem)
              omega
            · rw [decide_eq_false c2]
              refine ih (i + 1) false (by omega) (fun _ => ?_) (fun h => by cases h)
              have e : (pS ps).take (i + 1) = (pS ps).take i ++ [rd (pS ps) (i : Int)] := by
                rw [List.take_succ_eq_append_getElem (by omega)]
                congr 2
                unfold rd
                rw [List.getD_eq_getElem?_getD, show ((i : Int)).toNat = i from rfl, List.getElem?_eq_getElem (by omega)]
                rfl
              rw [e, List.all_append, h2, Bool.true_and, List.all_cons, List.all_nil, Bool.and_true]
              exact decide_eq_true (by omega)
        · exact ev_pos rfl (ih (i + 1) true (by omega) (fun h => by cases h) ht)
    · refine ev_neg hw (ev_eq (Ev.now _) ?_)
      rw [Bool.eq_false_iff.2 hw, Bool.false_and, Bool.false_and, if_neg (by decide)]
theorem ref_l0 (hf9 : ∀ p ∈ ps, FinL p.f0) (hf8 : ∀ p ∈ ms, p.f0.size ≤ 140737488351232) : ∀ (d i : Nat), i + d = ms.length →
    Ev (fun k => Z.customsref08_Good.l0 k 0 0 false (i : Int) ws ms ps b) (if allF (okM ms) ms.length i = true then (if allF (okP ps) ps.length 0 = true then tailE (mS ms) (pS ps) else 1) else 1) := by
  intro d
  induction d with
  | zero =>
    intro i hi
    refine Ev.step (fun k => by rw [Z.customsref08_Good.l0]) (ev_neg (by omega) ?_)
    rw [allF_end _ _ _ (by omega), if_pos rfl]
    exact ref_l1 ws b ms ps hm hp hf9 ps.length 0 false (by omega) (fun _ => by simp) (fun h => by cases h)
  | succ d ih =>
    intro i hi
    have hfi : (mN ms i).size ≤ 140737488351232 := by
      unfold mN
      rw [List.getD_eq_getElem?_getD, List.getElem?_eq_getElem (by omega)]
      exact hf8 _ (List.getElem_mem _)
    refine Ev.step (fun k => by rw [Z.customsref08_Good.l0]) (ev_pos (by omega) (ev_pos (by omega) ?_))
    rw [allF_step _ _ _ (by omega), rd36_at]
    refine Ev.bind (rword_ev _ hfi) ?_
    unfold okM
    by_cases hw : wd (mN ms i) = true
    · refine ev_pos hw ?_
      rw [hw, Bool.true_and]
      by_cases h0 : 0 < i
      · refine ev_pos (by omega) ?_
        rw [wrap64_id ((i : Int) - 1) (by omega), wrap64_id ((i : Int) + 1) (by omega), rd36_pred ms i h0, decide_eq_false (show ¬ i = 0 by omega), Bool.false_or]
        refine ev_pos (by omega) (ev_pos (by omega) ?_)
        by_cases hs : less (mN ms (i - 1)) (mN ms i) = true
        · refine ev_pos hs ?_
          rw [hs, Bool.true_and]
          exact ih (i + 1) (by omega)
        · refine ev_neg hs ?_
          rw [Bool.eq_false_iff.2 hs, Bool.false_and, if_neg (by decide)]
          exact Ev.now _
      · refine ev_neg (by omega) ?_
        rw [wrap64_id ((i : Int) + 1) (by omega), decide_eq_true (show i = 0 by omega), Bool.true_or, Bool.true_and]
        exact ih (i + 1) (by omega)
    · refine ev_neg hw ?_
      rw [Bool.eq_false_iff.2 hw, Bool.false_and, Bool.false_and, if_neg (by decide)]
      exact Ev.now _
end
structure FinG (ws : List ByteArray) (ms : List Z.S36) (ps : List Z.S38) : Prop where
  hw : FinL ws
  hm : ∀ p ∈ ms, p.f0.size ≤ 140737488351232
  hp : ∀ p ∈ ps, FinL p.f0
theorem ref_ev (ws : List ByteArray) (ms : List Z.S36) (ps : List Z.S38) (b : Bool) (hf : FinG ws ms ps) : Ev (fun k => Z.customsref08_Good.f k ws ms ps b) (goodE ws ms ps) := by
  refine Ev.congr (fun k => by rw [Z.customsref08_Good.f]) (Ev.bind (rwords_ev ws hf.hw) ?_)
  have key : ∀ z : Bool, Ev (fun k => Z.customsref08_Good.j0 k z ws ms ps b) (if z = true then 1 else if ms.length > 8 ∨ ps.length > 6 then 8 else if allF (okM ms) ms.length 0 = true then (if allF (okP ps) ps.length 0 = true then tailE (mS ms) (pS ps) else 1) else 1) := by
    intro z
    refine Ev.step (fun k => by rw [Z.customsref08_Good.j0]) ?_
    cases z
    · rw [if_neg (by decide)]
      refine ev_neg (by decide) ?_
      by_cases h1 : (ms.length : Int) > 8
      · rw [if_pos (.inl (by omega))]
        refine ev_pos h1 (Ev.step (fun k => by rw [Z.customsref08_Good.j1]) ?_)
        exact ev_pos rfl (Ev.now _)
      · refine ev_neg h1 (Ev.step (fun k => by rw [Z.customsref08_Good.j1]) ?_)
        by_cases h2 : (ps.length : Int) > 6
        · rw [if_pos (.inr (by omega))]
          exact ev_pos (decide_eq_true h2) (Ev.now _)
        · rw [if_neg (by omega)]
          refine ev_neg (by rw [decide_eq_false h2]; decide) ?_
          exact ref_l0 ws b ms ps (by omega) (by omega) hf.hp hf.hm ms.length 0 (by omega)
    · exact ev_pos rfl (ev_eq (Ev.now _) (by rw [if_pos rfl]))
  unfold goodE wsN
  by_cases hw : wsB ws = true
  · refine ev_pos hw (ev_eq (key _) ?_)
    rw [hw, Bool.true_and]
    by_cases hz : (ws.length : Int) = 0
    · rw [show ((ws.length : Int) == 0) = true from beq_iff_eq.2 hz, if_pos rfl, decide_eq_false (show ¬ 0 < ws.length by omega), if_neg (by decide)]
    · rw [show ((ws.length : Int) == 0) = false from beq_eq_false_iff_ne.2 hz, if_neg (show ¬ false = true by decide), decide_eq_true (show 0 < ws.length by omega), if_pos rfl]
  · refine ev_neg hw (ev_eq (key true) ?_)
    rw [Bool.eq_false_iff.2 hw, Bool.false_and, if_pos rfl, if_neg (by decide)]
end Go.Proofs.YtoolggpfgadjlaaDoor.Pure
