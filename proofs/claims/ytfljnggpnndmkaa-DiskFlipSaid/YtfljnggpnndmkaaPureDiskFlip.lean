/- The plain law of customslaw33.DiskFlip. Conditions: those each theorem states. -/
import Derived.Test.YtfljnggpnndmkaaZcustomslaw33DiskFlip
import Derived.Test.YtfljnggpnndmkaaOpn
import Derived.Test.YtfljnggpnndmkaaFlipLaws
namespace Go.Proofs.Ytfljnggpnndmkaa.Pure
open Go.RowKit Go.Proofs.YtfljnggpnndmkaaW.PrintWords Go.Proofs.YtfljnggpnndmkaaW.PrintLast Go.Proofs.YtfljnggpnndmkaaW.PrintMore Go.Proofs.Ytfljnggpnndmkaa.Opening

set_option linter.unusedVariables false
set_option linter.unusedSimpArgs false
theorem flip_loop (a b : List Int) (n : Int) (ha : a.length ≤ 140737488351232) (hbl : b.length ≤ 140737488351232) (hb : IsBytes a) (h0 : 0 ≤ n) (h1 : Int.tdiv n 8 < (a.length : Int)) (hn : n ≤ 9223372036854775807) :
    ∀ (d x : Nat), x + d = a.length → Z.customslaw33_DiskFlip.l0 (d + 1) n (x : Int) a b (flipped a n) b = some true := by
  have i0 : 0 ≤ Int.tdiv n 8 := Int.tdiv_nonneg h0 (by omega)
  have m0 : 0 ≤ Int.tmod n 8 := Int.tmod_nonneg _ h0
  have m1 : Int.tmod n 8 < 8 := Int.tmod_lt_of_pos n (by omega)
  have hl : (flipped a n).length = a.length := by simp [flipped]
  intro d
  induction d with
  | zero =>
    intro x hx
    simp only [Z.customslaw33_DiskFlip.l0]
    rw [if_neg (by omega), flip_eq (flipped a n) b n (by omega) hbl (by omega)]
    have e : flip2 (flipped a n) b n = (a, b) := by
      simp only [flip2]
      rw [if_pos ⟨h0, by omega⟩, flipped_flipped a n hb h0 h1]
    simp only [Option.bind_some, e, sameDisk_self, awake33, if_true]
  | succ d ih =>
    intro x hx
    rw [Z.customslaw33_DiskFlip.l0]
    rw [if_pos (by omega), if_pos (by omega), if_pos (by omega), tdiv8 n (by omega)]
    have key : (((rd (flipped a n) (x : Int)) != (rd a (x : Int))) != ((x : Int) == Int.tdiv n 8)) = false := by
      by_cases hx' : (x : Int) = Int.tdiv n 8
      · obtain ⟨r0, r1⟩ := rd_byte hb _ i0 h1
        have := (flip_byte _ _ r0 r1 m0 m1).1
        rw [hx']
        simp only [flipped]
        rw [rd_set_self a _ _ i0 h1]
        simp [this]
      · simp only [flipped]
        rw [rd_set_ne a _ _ _ i0 (by omega) (fun h => hx' h.symm)]
        simp [hx']
    rw [if_neg (by rw [key]; simp), wrap64_id ((x : Int) + 1) (by omega)]
    have := ih (x + 1) (by omega)
    rw [Int.natCast_add] at this
    exact this
theorem DiskFlip (l0_0 : (List Int)) (l0_1 : (List Int)) (a1 : Int) (w0_0 : (l0_0.length * 1 ≤ 140737488351232 ∧ ∀ z0 ∈ l0_0, (Lit.int .u8 z0).wf = true)) (w0_1 : (l0_1.length * 1 ≤ 140737488351232 ∧ ∀ z0 ∈ l0_1, (Lit.int .u8 z0).wf = true)) (w1 : (Lit.int .i64 a1).wf = true) : ∃ k, Z.customslaw33_DiskFlip.f k l0_0 l0_1 a1 = some true := by
  have hb := isBytes_of w0_0.2
  have hn := i64_of w1
  by_cases h : l0_0.length = 0
  · refine ⟨0, ?_⟩
    simp only [Z.customslaw33_DiskFlip.f]
    rw [if_pos (by omega), flip_eq l0_0 l0_1 a1 (by omega) (by omega) hn]
    have e : flip2 l0_0 l0_1 a1 = (l0_0, l0_1) := by
      simp only [flip2]
      refine if_neg fun hh => ?_
      have := Int.tdiv_nonneg hh.1 (show (0 : Int) ≤ 8 by omega)
      omega
    simp only [Option.bind_some, e, sameDisk_self, awake33, if_true]
  · obtain ⟨r, hr, r0, r1⟩ := within_eq a1 (8 * (l0_0.length : Int)) hn (by omega) (by omega)
    have e8 : Int.tdiv r 8 = r / 8 := Int.tdiv_eq_ediv_of_nonneg r0
    have i1 : Int.tdiv r 8 < (l0_0.length : Int) := by omega
    refine ⟨l0_0.length + 1, ?_⟩
    simp only [Z.customslaw33_DiskFlip.f]
    rw [if_neg (by omega), wrap64_id (8 * (l0_0.length : Int)) (by omega), hr]
    simp only [Option.bind_some]
    rw [flip_eq l0_0 l0_1 r (by omega) (by omega) (by omega)]
    have e : flip2 l0_0 l0_1 r = (flipped l0_0 r, l0_1) := if_pos ⟨r0, i1⟩
    simp only [Option.bind_some, e]
    have hl : (flipped l0_0 r).length = l0_0.length := by simp [flipped]
    rw [if_pos (by omega)]
    exact flip_loop l0_0 l0_1 r (by omega) (by omega) hb r0 i1 (by omega) l0_0.length 0 (by omega)
end Go.Proofs.Ytfljnggpnndmkaa.Pure
