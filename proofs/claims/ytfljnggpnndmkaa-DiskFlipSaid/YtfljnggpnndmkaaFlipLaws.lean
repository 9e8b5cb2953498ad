/- What Flip, Truncate, Crash and Within compute, in plain words. Conditions: those each theorem states. -/
import Derived.Test.YtfljnggpnndmkaaDiskLaws
import Derived.Test.YtfljnggpnndmkaaZcustomsmadeWithin
import Derived.Test.YtfljnggpnndmkaaZcustomsref33Flip
import Derived.Test.YtfljnggpnndmkaaZcustomsref33Crash
import Derived.Test.YtfljnggpnndmkaaZcustomsref33Truncate
import Derived.Test.YtfljnggpnndmkaaZdiskTruncate
namespace Go.Proofs.Ytfljnggpnndmkaa.Pure
open Go.RowKit Go.Proofs.YtfljnggpnndmkaaW.PrintWords Go.Proofs.YtfljnggpnndmkaaW.PrintLast Go.Proofs.YtfljnggpnndmkaaW.PrintMore Go.Proofs.Ytfljnggpnndmkaa.Opening
set_option linter.unusedVariables false
set_option linter.unusedSimpArgs false
def IsBytes (l : List Int) : Prop := ∀ x ∈ l, 0 ≤ x ∧ x < 256
theorem isBytes_of {l : List Int} (h : ∀ x ∈ l, (Lit.int .u8 x).wf = true) : IsBytes l := by
  intro x hx
  have := h x hx
  simp only [Lit.wf, Bool.and_eq_true, decide_eq_true_eq] at this
  have e1 : IntKind.min .u8 = 0 := by decide
  have e2 : IntKind.max .u8 = 255 := by decide
  omega
theorem i64_of {a : Int} (h : (Lit.int .i64 a).wf = true) : -9223372036854775808 ≤ a ∧ a ≤ 9223372036854775807 := by
  simp only [Lit.wf, Bool.and_eq_true, decide_eq_true_eq] at h
  have e1 : IntKind.min .i64 = -9223372036854775808 := by decide
  have e2 : IntKind.max .i64 = 9223372036854775807 := by decide
  omega
theorem within_eq (a m : Int) (ha : -9223372036854775808 ≤ a ∧ a ≤ 9223372036854775807) (h0 : 0 < m) (h1 : m ≤ 4000000000000000000) : ∃ r, Z.customsmade_Within.f a m = some r ∧ 0 ≤ r ∧ r < m := by
  have h2 : -m < Int.tmod a m := Int.lt_tmod_of_pos a h0
  have h3 : Int.tmod a m < m := Int.tmod_lt_of_pos a h0
  refine ⟨Int.tmod (Int.tmod a m + m) m, ?_, Int.tmod_nonneg _ (by omega), Int.tmod_lt_of_pos _ h0⟩
  simp only [Z.customsmade_Within.f]
  rw [if_neg (by omega), wrap64_id (Int.tmod a m + m) (by omega)]
theorem flip_fin : ∀ j : Fin 8, ∀ x : Fin 256, (Go.bits .xor .u8 (x.val : Int) (shl .u8 1 (j.val : Int)) ≠ (x.val : Int)) ∧ Go.bits .xor .u8 (Go.bits .xor .u8 (x.val : Int) (shl .u8 1 (j.val : Int))) (shl .u8 1 (j.val : Int)) = (x.val : Int) ∧
    0 ≤ Go.bits .xor .u8 (x.val : Int) (shl .u8 1 (j.val : Int)) ∧ Go.bits .xor .u8 (x.val : Int) (shl .u8 1 (j.val : Int)) < 256 := by decide +kernel
theorem flip_byte (x j : Int) (h0 : 0 ≤ x) (h1 : x < 256) (h2 : 0 ≤ j) (h3 : j < 8) : Go.bits .xor .u8 x (shl .u8 1 j) ≠ x ∧ Go.bits .xor .u8 (Go.bits .xor .u8 x (shl .u8 1 j)) (shl .u8 1 j) = x ∧
    0 ≤ Go.bits .xor .u8 x (shl .u8 1 j) ∧ Go.bits .xor .u8 x (shl .u8 1 j) < 256 := by
  have := flip_fin ⟨j.toNat, by omega⟩ ⟨x.toNat, by omega⟩
  simp only [Int.toNat_of_nonneg h0, Int.toNat_of_nonneg h2] at this
  exact this
theorem tdiv8 (n : Int) (h : -9223372036854775808 ≤ n ∧ n ≤ 9223372036854775807) : wrap64 (Int.tdiv n 8) = Int.tdiv n 8 := wrap64_id _ (by
  rcases Int.le_total 0 n with h0 | h0
  · rw [Int.tdiv_eq_ediv_of_nonneg h0]; omega
  · have : Int.tdiv n 8 = -(Int.tdiv (-n) 8) := by rw [Int.neg_tdiv]; omega
    rw [this, Int.tdiv_eq_ediv_of_nonneg (by omega)]; omega)
def flipped (a : List Int) (n : Int) : List Int := a.set (Int.tdiv n 8).toNat (Go.bits .xor .u8 (rd a (Int.tdiv n 8)) (shl .u8 1 (Int.tmod n 8)))
def flip2 (a b : List Int) (n : Int) : List Int × List Int := if 0 ≤ n ∧ Int.tdiv n 8 < (a.length : Int) then (flipped a n, b) else (a, b)
theorem flip_eq (a b : List Int) (n : Int) (ha : a.length ≤ 140737488351232) (hb : b.length ≤ 140737488351232) (hn : -9223372036854775808 ≤ n ∧ n ≤ 9223372036854775807) : Z.disk_Flip.f a b n = some (flip2 a b n) := by
  simp only [Z.disk_Flip.f, Z.slices_Clone_byte_byte.f]
  rw [if_pos (by omega), if_pos (by omega)]
  simp only [Option.bind_some, tdiv8 n hn, flip2, flipped]
  by_cases h0 : n ≥ 0
  · have : 0 ≤ Int.tdiv n 8 := Int.tdiv_nonneg h0 (by omega)
    have : 0 ≤ Int.tmod n 8 := Int.tmod_nonneg _ h0
    by_cases h1 : Int.tdiv n 8 < (a.length : Int)
    · rw [if_pos h0, if_pos h1, if_pos (by omega), if_pos (by omega), if_pos ⟨h0, h1⟩]
    · rw [if_pos h0, if_neg h1, if_neg (fun h => h1 h.2)]
  · rw [if_neg h0, if_neg (fun h => h0 h.1)]
theorem rd_set_self (a : List Int) (i v : Int) (h0 : 0 ≤ i) (h1 : i < a.length) : rd (a.set i.toNat v) i = v := by
  simp only [rd]
  rw [List.getD_eq_getElem?_getD, List.getElem?_set_self (by omega)]
  rfl
theorem rd_set_ne (a : List Int) (i j v : Int) (h0 : 0 ≤ i) (h2 : 0 ≤ j) (h : i ≠ j) : rd (a.set i.toNat v) j = rd a j := by
  simp only [rd]
  rw [List.getD_eq_getElem?_getD, List.getElem?_set_ne (by omega), ← List.getD_eq_getElem?_getD]
theorem rd_byte {a : List Int} (h : IsBytes a) (i : Int) (h0 : 0 ≤ i) (h1 : i < a.length) : 0 ≤ rd a i ∧ rd a i < 256 := by
  simp only [rd]
  rw [List.getD_eq_getElem?_getD, List.getElem?_eq_getElem (by omega)]
  exact h _ (List.getElem_mem _)
theorem set_rd (a : List Int) (i : Int) (h0 : 0 ≤ i) (h1 : i < a.length) : a.set i.toNat (rd a i) = a := by
  simp only [rd]
  rw [List.getD_eq_getElem?_getD, List.getElem?_eq_getElem (by omega)]
  exact List.set_getElem_self _
theorem flipped_flipped (a : List Int) (n : Int) (hb : IsBytes a) (h0 : 0 ≤ n) (h1 : Int.tdiv n 8 < (a.length : Int)) : flipped (flipped a n) n = a := by
  have i0 : 0 ≤ Int.tdiv n 8 := Int.tdiv_nonneg h0 (by omega)
  have m0 : 0 ≤ Int.tmod n 8 := Int.tmod_nonneg _ h0
  have m1 : Int.tmod n 8 < 8 := Int.tmod_lt_of_pos n (by omega)
  obtain ⟨r0, r1⟩ := rd_byte hb _ i0 h1
  have := (flip_byte _ _ r0 r1 m0 m1).2.1
  simp only [flipped]
  rw [rd_set_self a _ _ i0 h1, this, List.set_set, set_rd a _ i0 h1]
theorem flipped_bytes (a : List Int) (n : Int) (hb : IsBytes a) (h0 : 0 ≤ n) (h1 : Int.tdiv n 8 < (a.length : Int)) : IsBytes (flipped a n) := by
  have i0 : 0 ≤ Int.tdiv n 8 := Int.tdiv_nonneg h0 (by omega)
  have m0 : 0 ≤ Int.tmod n 8 := Int.tmod_nonneg _ h0
  have m1 : Int.tmod n 8 < 8 := Int.tmod_lt_of_pos n (by omega)
  obtain ⟨r0, r1⟩ := rd_byte hb _ i0 h1
  intro x hx
  rcases List.mem_or_eq_of_mem_set hx with hx | rfl
  · exact hb x hx
  · exact (flip_byte _ _ r0 r1 m0 m1).2.2
theorem ref_flip_eq (a b : List Int) (n : Int) (ha : a.length ≤ 140737488351232) (hn : -9223372036854775808 ≤ n ∧ n ≤ 9223372036854775807) : Z.customsref33_Flip.f a b n = some (flip2 a b n) := by
  simp only [Z.customsref33_Flip.f, Option.bind_some, List.nil_append, List.length_nil, tdiv8 n hn, flip2, flipped]
  by_cases h0 : n ≥ 0
  · have : 0 ≤ Int.tdiv n 8 := Int.tdiv_nonneg h0 (by omega)
    have : 0 ≤ Int.tmod n 8 := Int.tmod_nonneg _ h0
    by_cases h1 : Int.tdiv n 8 < (a.length : Int)
    · rw [if_neg (by omega), if_neg (by omega), if_pos (by omega), if_pos (by omega), if_pos (by omega), if_pos (by omega), if_pos ⟨h0, h1⟩]
    · rw [if_neg (by omega), if_pos (by omega), if_neg (fun h => h1 h.2)]
  · rw [if_pos (by omega), if_neg (fun h => h0 h.1)]
def crash2 (a b : List Int) (n : Int) : List Int × List Int := (a ++ b.take (mn (mx n 0) (b.length : Int)).toNat, [])
theorem mnmx (n : Int) (k : Nat) : 0 ≤ mn (mx n 0) (k : Int) ∧ mn (mx n 0) (k : Int) ≤ k := by
  simp only [mn, mx]
  split <;> split <;> omega
theorem crash_eq (a b : List Int) (n : Int) (h : a.length + b.length ≤ 140737488351232) : Z.disk_Crash.f a b n = some (crash2 a b n) := by
  have ⟨h0, h1⟩ := mnmx n b.length
  simp only [Z.disk_Crash.f, Z.slices_Concat_byte_byte.f]
  rw [if_pos h0, if_pos h1, if_pos (by rw [List.length_take]; omega)]
  rfl
theorem ref_crash_eq (a b : List Int) (n : Int) (h : a.length + b.length ≤ 140737488351232) : Z.customsref33_Crash.f a b n = some (crash2 a b n) := by
  have ⟨h0, h1⟩ := mnmx n b.length
  simp only [Z.customsref33_Crash.f, ref_read_eq a b h, Option.bind_some]
  rw [wrap64_id _ (by omega), if_pos (by omega), if_pos (by rw [List.length_append]; omega)]
  simp only [crash2]
  rw [show ((a.length : Int) + mn (mx n 0) (b.length : Int)).toNat = a.length + (mn (mx n 0) (b.length : Int)).toNat by omega, List.take_length_add_append]
def trunc2 (a b : List Int) (n : Int) : List Int × List Int × Int := if n < 0 ∨ n > ((a ++ b).length : Int) then ([], [], 2) else ((a ++ b).take n.toNat, [], 0)
theorem truncate_eq (a b : List Int) (n : Int) (h : a.length + b.length ≤ 140737488351232) : Z.disk_Truncate.f a b n = some (trunc2 a b n) := by
  simp only [Z.disk_Truncate.f, read_eq a b h, Option.bind_some, Z.slices_Clone_byte_byte.f, trunc2]
  by_cases h0 : n < 0
  · rw [if_pos h0, if_pos (.inl h0)]
  · by_cases h1 : n > ((a ++ b).length : Int)
    · rw [if_neg h0, if_pos h1, if_pos (.inr h1)]
    · rw [if_neg h0, if_neg h1, if_pos (by omega), if_pos (by omega), if_pos (by rw [List.length_take, List.length_append]; omega), if_neg (by omega)]
      rfl
theorem ref_truncate_eq (a b : List Int) (n : Int) (h : a.length + b.length ≤ 140737488351232) : Z.customsref33_Truncate.f a b n = some (trunc2 a b n) := by
  simp only [Z.customsref33_Truncate.f, ref_read_eq a b h, Option.bind_some, trunc2]
  by_cases h0 : n < 0
  · rw [if_pos h0, if_pos (.inl h0)]
  · by_cases h1 : n > ((a ++ b).length : Int)
    · rw [if_neg h0, if_pos h1, if_pos (.inr h1)]
    · rw [if_neg h0, if_neg h1, if_pos (by omega), if_pos (by omega), if_neg (by omega)]
end Go.Proofs.Ytfljnggpnndmkaa.Pure
