/- Plain facts on bytes: a text that is joined and split again, a number that is written and read again. Conditions: those each theorem states. -/
import Derived.Lib.Split
import Derived.Lib.SplitLaws
import Derived.Lib.IndexBytes
import Derived.Lib.Join
import Derived.Lib.AtoiAll
import Derived.Lib.ItoaNum
import Derived.Lib.LastIndexByte
namespace Go.Proofs.YtoolggpfgadjlaaDoor.Str
open Go.Lib
def bs (l : List UInt8) : ByteArray := ⟨l.toArray⟩
theorem bs_data (l : List UInt8) : (bs l).data.toList = l := rfl
theorem bs_inj {a b : ByteArray} (h : a.data.toList = b.data.toList) : a = b := by
  cases a with
  | mk x =>
    cases b with
    | mk y =>
      congr 1
      exact Array.toList_inj.1 h
theorem bs_of (s : ByteArray) : s = bs s.data.toList := bs_inj rfl
theorem bs_size (l : List UInt8) : (bs l).size = l.length := rfl
theorem bs_append (a b : List UInt8) : bs a ++ bs b = bs (a ++ b) := bs_inj (by rw [show (bs a ++ bs b).data.toList = (bs a).data.toList ++ (bs b).data.toList from by simp [ByteArray.data_append]]; rfl)
theorem join_two (x y : List UInt8) (r : List (List UInt8)) (c : UInt8) : join (x :: y :: r) [c] = x ++ c :: join (y :: r) [c] := by
  rw [join_cons, join_cons]
  simp [joinTail]
theorem idx_none (c : UInt8) : ∀ x : List UInt8, c ∉ x → indexByte x c = -1
  | [], _ => rfl
  | b :: r, h => by
    unfold indexByte
    have hb : (b == c) = false := beq_eq_false_iff_ne.2 (fun e => h (by rw [e]; exact List.mem_cons_self))
    have hr := idx_none c r (fun hm => h (List.mem_cons_of_mem _ hm))
    rw [hb, hr]
    rfl
theorem idx_at (c : UInt8) (r : List UInt8) : ∀ x : List UInt8, c ∉ x → indexByte (x ++ c :: r) c = x.length
  | [], _ => by
    show indexByte (c :: r) c = _
    unfold indexByte
    simp
  | b :: x, h => by
    show indexByte (b :: (x ++ c :: r)) c = _
    unfold indexByte
    have hb : (b == c) = false := beq_eq_false_iff_ne.2 (fun e => h (by rw [e]; exact List.mem_cons_self))
    have hr := idx_at c r x (fun hm => h (List.mem_cons_of_mem _ hm))
    have hn : (((x.length : Nat) : Int) == -1) = false := beq_eq_false_iff_ne.2 (by omega)
    rw [hb, hr, hn]
    simp
theorem split_join (c : UInt8) : ∀ (l : List (List UInt8)), l ≠ [] → (∀ x ∈ l, c ∉ x) → splitK [c] 0 (l.length - 1) (join l [c]) = l ∧ (join l [c]).count c = l.length - 1
  | [], h, _ => absurd rfl h
  | [x], _, hx => by
    rw [join_one]
    refine ⟨rfl, ?_⟩
    exact List.count_eq_zero.2 (hx x List.mem_cons_self)
  | x :: y :: r, _, hx => by
    obtain ⟨h1, h2⟩ := split_join c (y :: r) (by simp) (fun z hz => hx z (List.mem_cons_of_mem _ hz))
    have hxc := hx x List.mem_cons_self
    rw [join_two]
    constructor
    · show splitK [c] 0 ((r.length + 1 + 1 - 1 - 1) + 1) _ = _
      have hi := idx_at c (join (y :: r) [c]) x hxc
      rw [splitK, index_one, hi, if_neg (by simp)]
      have e1 : ((x.length : Nat) : Int).toNat = x.length := rfl
      rw [e1, Nat.add_zero, List.take_left, List.length_singleton]
      have e2 : (x ++ c :: join (y :: r) [c]).drop (x.length + 1) = join (y :: r) [c] := by
        rw [← List.drop_drop, List.drop_left]
        rfl
      rw [e2]
      congr 1
    · rw [List.count_append, List.count_cons_self, h2, List.count_eq_zero.2 hxc]
      simp
theorem map_bs {l : List ByteArray} {m : List (List UInt8)} (h : l.map (·.data.toList) = m) : l = m.map bs := by
  subst h
  rw [List.map_map]
  conv => lhs; rw [← List.map_id l]
  exact List.map_congr_left fun s _ => bs_of s
/-- strings.Split of what is joined with a byte that stands in none of the pieces. -/
theorem splitB_join (c : UInt8) (l : List (List UInt8)) (h : l ≠ []) (hx : ∀ x ∈ l, c ∉ x) : splitB (bs [c]) 0 (countB (bs (join l [c])) (bs [c])) (bs (join l [c])) = l.map bs := by
  apply map_bs
  obtain ⟨h1, h2⟩ := split_join c l h hx
  rw [splitB_data]
  show splitK [c] 0 (count (join l [c]) [c]) (join l [c]) = l
  rw [count_one, h2, h1]
-- numbers
theorem dec_step {u : Nat} (h : ¬ u < 10) : decDigits u = decDigits (u / 10) ++ [UInt8.ofNat (48 + u % 10)] := by
  conv => lhs; rw [decDigits, dif_neg h]
theorem dig_nat {i : Nat} (h : i < 10) : (UInt8.ofNat (48 + i)).toNat = 48 + i := by
  rw [UInt8.toNat_ofNat']
  omega
theorem dec_all : ∀ (n u : Nat), u ≤ n → ∀ b ∈ decDigits u, 48 ≤ b.toNat ∧ b.toNat ≤ 57 := by
  intro n
  induction n with
  | zero =>
    intro u hu b hb
    rw [decDigits_one (show u < 10 by omega)] at hb
    rw [List.mem_singleton.1 hb, dig_nat (by omega)]
    omega
  | succ n ih =>
    intro u hu b hb
    by_cases h : u < 10
    · rw [decDigits_one h] at hb
      rw [List.mem_singleton.1 hb, dig_nat h]
      omega
    · rw [dec_step h] at hb
      rcases List.mem_append.1 hb with hb | hb
      · exact ih (u / 10) (by omega) b hb
      · rw [List.mem_singleton.1 hb, dig_nat (by omega)]
        omega
theorem dec_ne (u : Nat) : decDigits u ≠ [] := by
  by_cases h : u < 10
  · rw [decDigits_one h]; simp
  · rw [dec_step h]; simp
theorem dec_len : ∀ (k u : Nat), u < 10 ^ (k + 1) → (decDigits u).length ≤ k + 1 := by
  intro k
  induction k with
  | zero => intro u hu; rw [decDigits_one (by omega)]; simp
  | succ k ih =>
    intro u hu
    by_cases h : u < 10
    · rw [decDigits_one h]; simp
    · rw [dec_step h, List.length_append, List.length_singleton]
      have := ih (u / 10) (by rw [Nat.pow_succ] at hu; omega)
      omega
theorem parse_one (acc i : Nat) (r : List UInt8) (hi : i < 10) (ha : acc < 100000000000000000) : parseUint10 acc (UInt8.ofNat (48 + i) :: r) = parseUint10 (acc * 10 + i) r := by
  rw [parseUint10, dig_nat hi, if_pos (by omega), if_neg (by omega), if_neg (by omega), show 48 + i - 48 = i by omega]
theorem parse_dec : ∀ (n u : Nat) (r : List UInt8), u ≤ n → u < 100000000000000000 → parseUint10 0 (decDigits u ++ r) = parseUint10 u r := by
  intro n
  induction n with
  | zero =>
    intro u r hu _
    rw [decDigits_one (show u < 10 by omega)]
    show parseUint10 0 (UInt8.ofNat (48 + u) :: r) = _
    rw [parse_one 0 u r (by omega) (by omega), Nat.zero_mul, Nat.zero_add]
  | succ n ih =>
    intro u r hu h17
    by_cases h : u < 10
    · rw [decDigits_one h]
      show parseUint10 0 (UInt8.ofNat (48 + u) :: r) = _
      rw [parse_one 0 u r h (by omega), Nat.zero_mul, Nat.zero_add]
    · rw [dec_step h, List.append_assoc, ih (u / 10) _ (by omega) (by omega)]
      show parseUint10 (u / 10) (UInt8.ofNat (48 + u % 10) :: r) = _
      rw [parse_one (u / 10) (u % 10) r (by omega) (by omega)]
      congr 1
      omega
theorem atoi_dec (u : Nat) (h : u < 100000000000000000) : atoiAll (decDigits u) = .ok (u : Int) := by
  have hp : parseMag (decDigits u) = .ok u := by
    unfold parseMag
    rw [if_neg (dec_ne u)]
    have := parse_dec u u [] (Nat.le_refl _) h
    rw [List.append_nil] at this
    rw [this]
    rfl
  have ha := dec_all u u (Nat.le_refl _)
  unfold atoiAll
  cases hd : decDigits u with
  | nil => exact absurd hd (dec_ne u)
  | cons c r =>
    have hc := ha c (by rw [hd]; exact List.mem_cons_self)
    rw [hd] at hp
    dsimp only
    rw [if_neg (by omega), hp]
    dsimp only
    rw [if_neg (by omega), if_neg (by omega), if_neg (by omega)]
-- the last colon
theorem bs_at (l : List UInt8) (j : Nat) : (bs l).data[j]! = l[j]! := by
  unfold bs
  simp
theorem last_at (c : UInt8) (x y : List UInt8) (hy : c ∉ y) : lastIndexByte (bs (x ++ c :: y)) (c.toNat : Int) = x.length := by
  unfold lastIndexByte
  have hlen : (bs (x ++ c :: y)).size = x.length + 1 + y.length := by rw [bs_size, List.length_append, List.length_cons]; omega
  have hx : (x ++ c :: y)[x.length]! = c := by
    rw [getElem!_pos _ _ (by simp), List.getElem_append_right (Nat.le_refl _)]
    simp
  rcases lastIdx_spec (bs (x ++ c :: y)) (c.toNat : Int) (bs (x ++ c :: y)).size with ⟨_, hn⟩ | ⟨i, hi, e, hc, hn⟩
  · have := hn x.length (by omega)
    rw [bs_at, hx] at this
    exact absurd rfl this
  · rw [e]
    rcases Nat.lt_trichotomy i x.length with h | h | h
    · have := hn x.length h (by omega)
      rw [bs_at, hx] at this
      exact absurd rfl this
    · rw [h]
    · exfalso
      apply hy
      rw [bs_at] at hc
      have hi2 : i < (x ++ c :: y).length := by rw [← bs_size]; exact hi
      have hc2 : (x ++ c :: y)[i]! = c := UInt8.toNat_inj.1 (by omega)
      obtain ⟨q, rfl⟩ : ∃ q, i = x.length + (q + 1) := ⟨i - x.length - 1, by omega⟩
      have h5 : (x ++ c :: y)[x.length + (q + 1)]? = some c := by
        rw [List.getElem?_eq_getElem hi2, ← getElem!_pos (x ++ c :: y) (x.length + (q + 1)) hi2, hc2]
      rw [List.getElem?_append_right (by omega), Nat.add_sub_cancel_left, List.getElem?_cons_succ] at h5
      exact List.mem_of_getElem? h5
end Go.Proofs.YtoolggpfgadjlaaDoor.Str
