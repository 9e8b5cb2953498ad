/- What Characters and its reference compute for a description that is made; the sort of at most three. Conditions: those each theorem states. -/
import Derived.Test.YtoolggpfgadjlaaDoorMade
import Derived.Test.YtoolggpfgadjlaaDoorZgoodsCharacters
import Derived.Test.YtoolggpfgadjlaaDoorZcustomsref08Characters
import Derived.Test.YtoolggpfgadjlaaDoorZcustomsref08SameParts
namespace Go.Proofs.YtoolggpfgadjlaaDoor.Pure
open Go.RowKit Go.Proofs.YtoolggpfgadjlaaDoorW.PrintWords Go.Proofs.YtoolggpfgadjlaaDoorW.PrintLast Go.Proofs.YtoolggpfgadjlaaDoorW.PrintMore
set_option linter.unusedVariables false
set_option linter.unusedSimpArgs false
open Go.Sort
section
variable {α : Type} [Inhabited α] (lt : α → α → Bool) (x y z : α)
def srt3 : List α → List α
  | [] => []
  | [x] => [x]
  | [x, y] => if lt y x = true then [y, x] else [x, y]
  | x :: y :: z :: r => (if lt y x = true then (if lt z x = true then (if lt z y = true then [z, y, x] else [y, z, x]) else [y, x, z]) else (if lt z y = true then (if lt z x = true then [z, x, y] else [x, z, y]) else [x, y, z])) ++ r
theorem ins0 : insertionSort lt (#[] : Array α) 0 0 = #[] := by unfold insertionSort; rw [insOuter, if_neg (by decide)]
theorem ins1 : insertionSort lt #[x] 0 1 = #[x] := by unfold insertionSort; rw [insOuter, if_neg (by decide)]
theorem inner1 (r : List α) : insInner lt 0 1 (x :: y :: r).toArray = if lt y x = true then (y :: x :: r).toArray else (x :: y :: r).toArray := by
  show (if (decide (0 + 1 > 0) && lt y x) = true then insInner lt 0 0 (y :: x :: r).toArray else (x :: y :: r).toArray) = _
  simp [insInner]
theorem inner2 (r : List α) : insInner lt 0 2 (x :: y :: z :: r).toArray = if lt z y = true then insInner lt 0 1 (x :: z :: y :: r).toArray else (x :: y :: z :: r).toArray := by
  show (if (decide (1 + 1 > 0) && lt z y) = true then insInner lt 0 1 (x :: z :: y :: r).toArray else (x :: y :: z :: r).toArray) = _
  simp
theorem ins2 : insertionSort lt [x, y].toArray 0 2 = (srt3 lt [x, y]).toArray := by
  unfold insertionSort
  rw [insOuter, if_pos (by decide), insOuter, if_neg (by decide), inner1]
  simp only [srt3]
  split <;> rfl
theorem ins3 : insertionSort lt [x, y, z].toArray 0 3 = (srt3 lt [x, y, z]).toArray := by
  unfold insertionSort
  rw [insOuter, if_pos (by decide), insOuter, if_pos (by decide), insOuter, if_neg (by decide), inner1]
  simp only [srt3, List.append_nil]
  by_cases h1 : lt y x = true
  · rw [if_pos h1, if_pos h1]
    show insInner lt 0 2 [y, x, z].toArray = _
    rw [inner2, inner1]
    by_cases h2 : lt z x = true
    · rw [if_pos h2, if_pos h2]; split <;> rfl
    · rw [if_neg h2, if_neg h2]
  · rw [if_neg h1, if_neg h1]
    show insInner lt 0 2 [x, y, z].toArray = _
    rw [inner2, inner1]
    by_cases h2 : lt z y = true
    · rw [if_pos h2, if_pos h2]; split <;> rfl
    · rw [if_neg h2, if_neg h2]
theorem ins_le3 (l : List α) (h : l.length ≤ 3) : (insertionSort lt l.toArray 0 l.length).toList = srt3 lt l := by
  match l, h with
  | [], _ => rw [show insertionSort lt ([] : List α).toArray 0 ([] : List α).length = #[] from ins0 lt]; rfl
  | [x], _ => rw [show insertionSort lt [x].toArray 0 [x].length = #[x] from ins1 lt x]; rfl
  | [x, y], _ => rw [show insertionSort lt [x, y].toArray 0 [x, y].length = _ from ins2 lt x y]
  | [x, y, z], _ => rw [show insertionSort lt [x, y, z].toArray 0 [x, y, z].length = _ from ins3 lt x y z]
end
-- what may give the goods their character, before the sort
def chars (ms : List Z.S36) (ps : List Z.S38) : List Z.S38 := if ps.length = 0 then ms.map (fun m => (⟨[m.f0], m.f1⟩ : Z.S38)) else ps
def gt38 (x y : Z.S38) : Bool := decide (y.f1 < x.f1)
theorem take_map36 (ms : List Z.S36) (i : Nat) (h : i < ms.length) : (ms.take i).map (fun m => (⟨[m.f0], m.f1⟩ : Z.S38)) ++ [(⟨([(Z.rd_T36 ms (i : Int)).f0] : List ByteArray), (Z.rd_T36 ms (i : Int)).f1⟩ : Z.S38)] = (ms.take (i + 1)).map (fun m => (⟨[m.f0], m.f1⟩ : Z.S38)) := by
  rw [List.take_succ_eq_append_getElem h, List.map_append]
  congr 1
  unfold Z.rd_T36
  rw [List.getD_eq_getElem?_getD, show ((i : Int)).toNat = i from rfl, List.getElem?_eq_getElem h]
  rfl
theorem take38s (ps : List Z.S38) (i : Nat) (h : i < ps.length) : ps.take i ++ [(⟨(Z.rd_T38 ps (i : Int)).f0, (Z.rd_T38 ps (i : Int)).f1⟩ : Z.S38)] = ps.take (i + 1) := by
  rw [List.take_succ_eq_append_getElem h]
  congr 1
  unfold Z.rd_T38
  rw [List.getD_eq_getElem?_getD, show ((i : Int)).toNat = i from rfl, List.getElem?_eq_getElem h]
  rfl
def sortF (l : List Z.S38) : List Z.S38 := (insertionSort (ltOf Z.api_Component_43.cf) l.toArray 0 l.length).toList
theorem sortF_ev (l : List Z.S38) (h : l.length < 20) : Z.api_Component_43.f l = some (sortF l) := by
  unfold Z.api_Component_43.f sortF
  rw [if_pos h]
theorem chars_l1 (ws : List ByteArray) (ms : List Z.S36) (hm : ms.length ≤ 8) (b : Bool) : ∀ (d i : Nat), i + d = ms.length → Ev (fun k => Z.goods_Characters.l1 k ((ms.take i).map (fun m => (⟨[m.f0], m.f1⟩ : Z.S38))) (i : Int) ws ms [] b) (sortF (ms.map (fun m => (⟨[m.f0], m.f1⟩ : Z.S38)))) := by
  intro d
  induction d with
  | zero =>
    intro i hi
    refine Ev.step (fun k => by rw [Z.goods_Characters.l1]) ?_
    refine ev_pos rfl (ev_neg (by omega) ?_)
    rw [List.take_of_length_le (by omega), sortF_ev _ (by rw [List.length_map]; omega)]
    exact ev_some (Ev.now _)
  | succ d ih =>
    intro i hi
    refine Ev.step (fun k => by rw [Z.goods_Characters.l1]) ?_
    refine ev_pos rfl (ev_pos (by omega) (ev_pos (by omega) ?_))
    rw [take_map36 ms i (by omega), wrap64_id ((i : Int) + 1) (by omega)]
    exact ev_pos (by rw [List.length_map, List.length_take]; omega) (ih (i + 1) (by omega))
theorem chars_l0 (ws : List ByteArray) (ms : List Z.S36) (hm : ms.length ≤ 8) (ps : List Z.S38) (hp : ps.length ≤ 6) (hf : ∀ p ∈ ps, p.f0.length ≤ 8) (b : Bool) : ∀ (d i : Nat), i + d = ps.length → Ev (fun k => Z.goods_Characters.l0 k (ps.take i) ps (ps.length : Int) (i : Int) ws ms ps b) (sortF (chars ms ps)) := by
  intro d
  induction d with
  | zero =>
    intro i hi
    refine Ev.step (fun k => by rw [Z.goods_Characters.l0]) ?_
    refine ev_neg (by omega) ?_
    rw [List.take_of_length_le (by omega)]
    unfold chars
    by_cases hz : ps.length = 0
    · obtain rfl : ps = [] := List.length_eq_zero_iff.1 hz
      exact chars_l1 ws ms hm b ms.length 0 (by omega)
    · rw [if_neg hz]
      refine Ev.step (fun k => by rw [Z.goods_Characters.l1]) ?_
      refine ev_neg (by omega) ?_
      rw [sortF_ev _ (by omega)]
      exact ev_some (Ev.now _)
  | succ d ih =>
    intro i hi
    refine Ev.step (fun k => by rw [Z.goods_Characters.l0]) ?_
    refine ev_pos (by omega) (ev_pos (by omega) (ev_pos (by omega) ?_))
    have hl : ((Z.rd_T38 ps (i : Int)).f0).length ≤ 8 := by
      unfold Z.rd_T38
      rw [List.getD_eq_getElem?_getD, show ((i : Int)).toNat = i from rfl, List.getElem?_eq_getElem (by omega)]
      exact hf _ (List.getElem_mem _)
    rw [show Z.slices_Clone_string_string.f (Z.rd_T38 ps (i : Int)).f0 = some (Z.rd_T38 ps (i : Int)).f0 by unfold Z.slices_Clone_string_string.f; rw [if_pos (by omega)]]
    refine ev_some (ev_pos (by rw [List.length_take]; omega) ?_)
    rw [take38s ps i (by omega), wrap64_id ((i : Int) + 1) (by omega)]
    exact ih (i + 1) (by omega)
theorem chars_ev (ws : List ByteArray) (ms : List Z.S36) (hm : ms.length ≤ 8) (ps : List Z.S38) (hp : ps.length ≤ 6) (hf : ∀ p ∈ ps, p.f0.length ≤ 8) (b : Bool) : Ev (fun k => Z.goods_Characters.f k ws ms ps b) (sortF (chars ms ps)) := by
  refine Ev.congr (fun k => by rw [Z.goods_Characters.f]) ?_
  exact chars_l0 ws ms hm ps hp hf b ps.length 0 (by omega)
-- the reference: the first of the greatest, again and again
def bestF (l : List Z.S38) : Nat → Nat → Nat → Nat
  | 0, best, _ => best
  | d + 1, best, i => if (Z.rd_T38 l (i : Int)).f1 > (Z.rd_T38 l (best : Int)).f1 then bestF l d i (i + 1) else bestF l d best (i + 1)
def selF : Nat → List Z.S38 → List Z.S38
  | 0, _ => []
  | n + 1, l => Z.rd_T38 l (bestF l (l.length - 1) 0 1 : Int) :: selF n (l.take (bestF l (l.length - 1) 0 1) ++ l.drop (bestF l (l.length - 1) 0 1 + 1))
theorem bestF_lt (l : List Z.S38) : ∀ (d best i : Nat), best < l.length → i + d = l.length → bestF l d best i < l.length := by
  intro d
  induction d with
  | zero => intro best i h _; exact h
  | succ d ih =>
    intro best i h hi
    unfold bestF
    split
    · exact ih _ _ (by omega) (by omega)
    · exact ih _ _ h (by omega)
theorem sel_l2 (l out : List Z.S38) (hl : l.length ≤ 100) (ho : out.length ≤ 100) (r : List Z.S38) : ∀ (d best i : Nat), best < l.length → i + d = l.length →
    Ev (fun k => Z.customsref08_Characters.l1 k (l.take (bestF l d best i) ++ l.drop (bestF l d best i + 1)) (out ++ [Z.rd_T38 l (bestF l d best i : Int)])) r →
    Ev (fun k => Z.customsref08_Characters.l2 k l out (best : Int) (i : Int)) r := by
  intro d
  induction d with
  | zero =>
    intro best i h hi hr
    simp only [bestF] at hr
    refine Ev.step (fun k => by rw [Z.customsref08_Characters.l2]) ?_
    refine ev_neg (by omega) (ev_pos (by omega) (ev_pos (by omega) (ev_pos (by omega) (ev_some (ev_pos (by omega) (ev_some (ev_pos ?_ (ev_some ?_))))))))
    · rw [List.length_nil, List.length_take]; omega
    · rw [wrap64_id ((best : Int) + 1) (by omega)]
      refine ev_pos (by omega) (ev_pos (by omega) (ev_some (ev_pos ?_ ?_)))
      · rw [List.nil_append, List.length_take, List.length_drop]; omega
      · rw [List.nil_append]
        exact hr
  | succ d ih =>
    intro best i h hi hr
    refine Ev.step (fun k => by rw [Z.customsref08_Characters.l2]) ?_
    refine ev_pos (by omega) (ev_pos (by omega) (ev_pos (by omega) (ev_pos (by omega) ?_)))
    rw [wrap64_id ((i : Int) + 1) (by omega)]
    unfold bestF at hr
    by_cases hc : (Z.rd_T38 l (i : Int)).f1 > (Z.rd_T38 l (best : Int)).f1
    · rw [if_pos hc] at hr
      exact ev_pos hc (ih i (i + 1) (by omega) (by omega) hr)
    · rw [if_neg hc] at hr
      exact ev_neg hc (ih best (i + 1) h (by omega) hr)
theorem sel_l1 : ∀ (n : Nat) (l out : List Z.S38), l.length = n → n + out.length ≤ 100 → Ev (fun k => Z.customsref08_Characters.l1 k l out) (out ++ selF n l) := by
  intro n
  induction n with
  | zero =>
    intro l out hl ho
    refine Ev.step (fun k => by rw [Z.customsref08_Characters.l1]) ?_
    refine ev_neg (by omega) (ev_eq (Ev.now _) ?_)
    simp [selF]
  | succ n ih =>
    intro l out hl ho
    have hb := bestF_lt l (l.length - 1) 0 1 (by omega) (by omega)
    refine Ev.step (fun k => by rw [Z.customsref08_Characters.l1]) ?_
    refine ev_pos (by omega) ?_
    refine sel_l2 l out (by omega) (by omega) _ (l.length - 1) 0 1 (by omega) (by omega) ?_
    refine ev_eq (ih _ _ (by rw [List.length_append, List.length_take, List.length_drop]; omega) (by rw [List.length_append, List.length_singleton]; omega)) ?_
    simp [selF]
theorem rchars_l0 (ws : List ByteArray) (ms : List Z.S36) (hm : ms.length ≤ 8) (b : Bool) (r : List Z.S38) (hr : Ev (fun k => Z.customsref08_Characters.j1 k (ms.map (fun m => (⟨[m.f0], m.f1⟩ : Z.S38)))) r) : ∀ (d i : Nat), i + d = ms.length → Ev (fun k => Z.customsref08_Characters.l0 k ((ms.take i).map (fun m => (⟨[m.f0], m.f1⟩ : Z.S38))) (i : Int) ws ms [] b) r := by
  intro d
  induction d with
  | zero =>
    intro i hi
    refine Ev.step (fun k => by rw [Z.customsref08_Characters.l0]) ?_
    refine ev_neg (by omega) ?_
    rw [List.take_of_length_le (by omega)]
    exact hr
  | succ d ih =>
    intro i hi
    refine Ev.step (fun k => by rw [Z.customsref08_Characters.l0]) ?_
    refine ev_pos (by omega) (ev_pos (by omega) (ev_pos (by rw [List.length_map, List.length_take]; omega) ?_))
    rw [take_map36 ms i (by omega), wrap64_id ((i : Int) + 1) (by omega)]
    exact ih (i + 1) (by omega)
theorem rchars_ev (ws : List ByteArray) (ms : List Z.S36) (hm : ms.length ≤ 8) (ps : List Z.S38) (hp : ps.length ≤ 6) (b : Bool) : Ev (fun k => Z.customsref08_Characters.f k ws ms ps b) (selF (chars ms ps).length (chars ms ps)) := by
  have fin : ∀ l : List Z.S38, l.length ≤ 8 → Ev (fun k => Z.customsref08_Characters.j1 k l) (selF l.length l) := by
    intro l hl
    refine Ev.step (fun k => by rw [Z.customsref08_Characters.j1]) ?_
    exact ev_eq (sel_l1 l.length l [] rfl (by simp only [List.length_nil]; omega)) (by simp)
  refine Ev.congr (fun k => by rw [Z.customsref08_Characters.f]) ?_
  refine ev_some (ev_pos (by simp only [List.length_nil]; omega) (ev_some ?_))
  simp only [List.nil_append]
  unfold chars
  by_cases hz : ps.length = 0
  · obtain rfl : ps = [] := List.length_eq_zero_iff.1 hz
    refine ev_pos rfl ?_
    exact rchars_l0 ws ms hm b _ (fin _ (by rw [List.length_map]; exact hm)) ms.length 0 (by omega)
  · rw [if_neg hz]
    exact ev_neg (by omega) (fin ps (by omega))
-- alike, and in order, for at most three with shares in their range
def okL (l : List Z.S38) : Prop := ∀ p ∈ l, 1 ≤ p.f1 ∧ p.f1 ≤ 1000000
theorem lt_gt (x y : Z.S38) (hx : 1 ≤ x.f1 ∧ x.f1 ≤ 1000000) (hy : 1 ≤ y.f1 ∧ y.f1 ≤ 1000000) : (ltOf Z.api_Component_43.cf x y = true) ↔ y.f1 < x.f1 := by
  unfold ltOf Z.api_Component_43.cf
  rw [wrap64_id _ (by omega), decide_eq_true_eq]
  omega
theorem rd38_0 (x : Z.S38) (r : List Z.S38) : Z.rd_T38 (x :: r) 0 = x := rfl
theorem rd38_1 (x y : Z.S38) (r : List Z.S38) : Z.rd_T38 (x :: y :: r) 1 = y := rfl
theorem rd38_2 (x y z : Z.S38) (r : List Z.S38) : Z.rd_T38 (x :: y :: z :: r) 2 = z := rfl
theorem sel1 (x : Z.S38) : selF 1 [x] = [x] := rfl
theorem sel2 (x y : Z.S38) : selF 2 [x, y] = if y.f1 > x.f1 then [y, x] else [x, y] := by
  have hb : bestF [x, y] ([x, y].length - 1) 0 1 = if y.f1 > x.f1 then 1 else 0 := rfl
  unfold selF
  rw [hb]
  split <;> rfl
theorem sel3 (x y z : Z.S38) : selF 3 [x, y, z] = if y.f1 > x.f1 then (if z.f1 > y.f1 then z :: selF 2 [x, y] else y :: selF 2 [x, z]) else (if z.f1 > x.f1 then z :: selF 2 [x, y] else x :: selF 2 [y, z]) := by
  have hb : bestF [x, y, z] ([x, y, z].length - 1) 0 1 = if y.f1 > x.f1 then (if z.f1 > y.f1 then 2 else 1) else (if z.f1 > x.f1 then 2 else 0) := rfl
  rw [selF, hb]
  split
  · split <;> rfl
  · split <;> rfl
theorem same3 (l : List Z.S38) (h3 : l.length ≤ 3) (ho : okL l) : selF l.length l = sortF l := by
  unfold sortF
  rw [ins_le3 _ l h3]
  match l, h3, ho with
  | [], _, _ => rfl
  | [x], _, _ => rfl
  | [x, y], _, ho =>
    have hx := ho x (by simp); have hy := ho y (by simp)
    show selF 2 [x, y] = _
    rw [sel2]
    simp only [srt3, lt_gt y x hy hx, GT.gt]
  | [x, y, z], _, ho =>
    have hx := ho x (by simp); have hy := ho y (by simp); have hz := ho z (by simp)
    show selF 3 [x, y, z] = _
    rw [sel3, sel2, sel2, sel2]
    simp only [srt3, List.append_nil, lt_gt y x hy hx, lt_gt z x hz hx, lt_gt z y hz hy]
    by_cases h1 : y.f1 > x.f1
    · rw [if_pos h1, if_pos (show x.f1 < y.f1 from h1), if_pos h1]
      by_cases h2 : z.f1 > y.f1
      · rw [if_pos h2, if_pos (show x.f1 < z.f1 by omega), if_pos (show y.f1 < z.f1 from h2)]
      · rw [if_neg h2, if_neg (show ¬ y.f1 < z.f1 from h2)]
        by_cases h4 : z.f1 > x.f1
        · rw [if_pos h4, if_pos (show x.f1 < z.f1 from h4)]
        · rw [if_neg h4, if_neg (show ¬ x.f1 < z.f1 from h4)]
    · rw [if_neg h1, if_neg (show ¬ x.f1 < y.f1 from h1), if_neg h1]
      by_cases h2 : z.f1 > x.f1
      · rw [if_pos h2, if_pos (show y.f1 < z.f1 by omega), if_pos (show x.f1 < z.f1 from h2)]
      · rw [if_neg h2, if_neg (show ¬ x.f1 < z.f1 from h2)]
        by_cases h4 : z.f1 > y.f1
        · rw [if_pos h4, if_pos (show y.f1 < z.f1 from h4)]
        · rw [if_neg h4, if_neg (show ¬ y.f1 < z.f1 from h4)]
theorem sort3_ord (l : List Z.S38) (h3 : l.length ≤ 3) (ho : okL l) : (sortF l).length = l.length ∧ sumI (pS (sortF l)) = sumI (pS l) ∧ (∀ i, 0 < i → i < (sortF l).length → (Z.rd_T38 (sortF l) (i : Int)).f1 ≤ (Z.rd_T38 (sortF l) ((i - 1 : Nat) : Int)).f1) ∧ okL (sortF l) := by
  unfold sortF
  rw [ins_le3 _ l h3]
  match l, h3, ho with
  | [], _, ho => exact ⟨rfl, rfl, fun i _ h => by simp [srt3] at h, ho⟩
  | [x], _, ho => exact ⟨rfl, rfl, fun i h0 h => by simp [srt3] at h; omega, ho⟩
  | [x, y], _, ho =>
    have hx := ho x (by simp); have hy := ho y (by simp)
    simp only [srt3, lt_gt y x hy hx]
    split
    · refine ⟨rfl, by simp [pS, sumI]; omega, fun i h0 h => ?_, fun p hp => ?_⟩
      · obtain rfl : i = 1 := by simp at h; omega
        show x.f1 ≤ y.f1; omega
      · rcases List.mem_cons.1 hp with rfl | hp
        · exact hy
        · rw [List.mem_singleton.1 hp]; exact hx
    · refine ⟨rfl, rfl, fun i h0 h => ?_, ho⟩
      obtain rfl : i = 1 := by simp at h; omega
      show y.f1 ≤ x.f1; omega
  | [x, y, z], _, ho =>
    have hx := ho x (by simp); have hy := ho y (by simp); have hz := ho z (by simp)
    simp only [srt3, List.append_nil, lt_gt y x hy hx, lt_gt z x hz hx, lt_gt z y hz hy]
    have fin : ∀ a b c : Z.S38, (1 ≤ a.f1 ∧ a.f1 ≤ 1000000) → (1 ≤ b.f1 ∧ b.f1 ≤ 1000000) → (1 ≤ c.f1 ∧ c.f1 ≤ 1000000) → b.f1 ≤ a.f1 → c.f1 ≤ b.f1 → a.f1 + b.f1 + c.f1 = x.f1 + y.f1 + z.f1 →
        [a, b, c].length = [x, y, z].length ∧ sumI (pS [a, b, c]) = sumI (pS [x, y, z]) ∧ (∀ i, 0 < i → i < [a, b, c].length → (Z.rd_T38 [a, b, c] (i : Int)).f1 ≤ (Z.rd_T38 [a, b, c] ((i - 1 : Nat) : Int)).f1) ∧ okL [a, b, c] := by
      intro a b c ha hb hc hab hbc hs
      refine ⟨rfl, by simp [pS, sumI]; omega, fun i h0 h => ?_, fun p hp => ?_⟩
      · have hi : i = 1 ∨ i = 2 := by simp at h; omega
        rcases hi with rfl | rfl
        · exact hab
        · exact hbc
      · rcases List.mem_cons.1 hp with rfl | hp
        · exact ha
        · rcases List.mem_cons.1 hp with rfl | hp
          · exact hb
          · rw [List.mem_singleton.1 hp]; exact hc
    split
    · split
      · split
        · exact fin _ _ _ hz hy hx (by omega) (by omega) (by omega)
        · exact fin _ _ _ hy hz hx (by omega) (by omega) (by omega)
      · exact fin _ _ _ hy hx hz (by omega) (by omega) (by omega)
    · split
      · split
        · exact fin _ _ _ hz hx hy (by omega) (by omega) (by omega)
        · exact fin _ _ _ hx hz hy (by omega) (by omega) (by omega)
      · exact fin _ _ _ hx hy hz (by omega) (by omega) (by omega)
-- equal to itself
theorem sameStrings_ev (l : List ByteArray) (hl : l.length ≤ 140737488351232) : Ev (fun k => Z.customsref08_SameStrings.f k l l) true := by
  have key : ∀ (d i : Nat), i + d = l.length → Ev (fun k => Z.customsref08_SameStrings.l0 k l l (i : Int)) true := by
    intro d
    induction d with
    | zero => intro i hi; refine Ev.step (fun k => by rw [Z.customsref08_SameStrings.l0]) ?_; exact ev_neg (by omega) (Ev.now _)
    | succ d ih =>
      intro i hi
      refine Ev.step (fun k => by rw [Z.customsref08_SameStrings.l0]) ?_
      refine ev_pos (by omega) (ev_pos (by omega) (ev_pos (by omega) (ev_pos rfl ?_)))
      rw [wrap64_id ((i : Int) + 1) (by omega)]
      exact ih (i + 1) (by omega)
  refine Ev.congr (fun k => by rw [Z.customsref08_SameStrings.f]) ?_
  refine ev_pos rfl ?_
  exact key l.length 0 (by omega)
theorem sameParts_ev (l : List Z.S38) (hl : l.length ≤ 140737488351232) (hf : ∀ p ∈ l, p.f0.length ≤ 140737488351232) : Ev (fun k => Z.customsref08_SameParts.f k l l) true := by
  have key : ∀ (d i : Nat), i + d = l.length → Ev (fun k => Z.customsref08_SameParts.l0 k l l (i : Int)) true := by
    intro d
    induction d with
    | zero => intro i hi; refine Ev.step (fun k => by rw [Z.customsref08_SameParts.l0]) ?_; exact ev_neg (by omega) (Ev.now _)
    | succ d ih =>
      intro i hi
      have hm : Z.rd_T38 l (i : Int) ∈ l := by
        unfold Z.rd_T38
        rw [List.getD_eq_getElem?_getD, show ((i : Int)).toNat = i from rfl, List.getElem?_eq_getElem (by omega)]
        exact List.getElem_mem _
      refine Ev.step (fun k => by rw [Z.customsref08_SameParts.l0]) ?_
      refine ev_pos (by omega) (ev_pos (by omega) (ev_pos (by omega) (ev_pos rfl (Ev.bind (sameStrings_ev _ (hf _ hm)) (ev_pos rfl ?_)))))
      rw [wrap64_id ((i : Int) + 1) (by omega)]
      exact ih (i + 1) (by omega)
  refine Ev.congr (fun k => by rw [Z.customsref08_SameParts.f]) ?_
  refine ev_pos rfl ?_
  exact key l.length 0 (by omega)
end Go.Proofs.YtoolggpfgadjlaaDoor.Pure
