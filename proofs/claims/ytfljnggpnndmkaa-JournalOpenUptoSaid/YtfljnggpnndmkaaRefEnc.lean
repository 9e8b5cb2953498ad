/- What the reference's Encode computes. Conditions: those each theorem states. -/
import Derived.Test.YtfljnggpnndmkaaJFns
import Derived.Test.YtfljnggpnndmkaaZcustomsref33Encode
namespace Go.Proofs.Ytfljnggpnndmkaa.Pure
open Go.RowKit Go.Proofs.YtfljnggpnndmkaaW.PrintWords Go.Proofs.YtfljnggpnndmkaaW.PrintLast Go.Proofs.YtfljnggpnndmkaaW.PrintMore Go.Proofs.Ytfljnggpnndmkaa.Opening
set_option linter.unusedVariables false
set_option linter.unusedSimpArgs false
theorem ref_ck_loop (l : List Int) (hb : IsBytes l) (hl : l.length ≤ 140737488351232) : ∀ (d i : Nat) (x y : Int), i + d = l.length → 0 ≤ x → x < 65521 → 0 ≤ y → y < 65521 →
    Ev (fun k => Z.customsref06_Checksum.l0 k l x y (i : Int)) ((ckGo (l.drop i) x y).2 * 65536 + (ckGo (l.drop i) x y).1) := by
  intro d
  induction d with
  | zero =>
    intro i x y hi h0 h1 h2 h3
    refine Ev.step (fun k => by rw [Z.customsref06_Checksum.l0]) ?_
    refine ev_neg (by omega) ?_
    rw [List.drop_of_length_le (by omega), wrap64_id (y * 65536) (by omega), wrap64_id (y * 65536 + x) (by omega)]
    exact Ev.now _
  | succ d ih =>
    intro i x y hi h0 h1 h2 h3
    obtain ⟨r0, r1⟩ := rd_byte hb (i : Int) (by omega) (by omega)
    refine Ev.step (fun k => by rw [Z.customsref06_Checksum.l0]) ?_
    refine ev_pos (by omega) (ev_pos (by omega) ?_)
    rw [wrap64_id (rd l (i : Int)) (by omega), wrap64_id (x + rd l (i : Int)) (by omega), Int.tmod_eq_emod_of_nonneg (by omega), wrap64_id (y + (x + rd l (i : Int)) % 65521) (by omega), Int.tmod_eq_emod_of_nonneg (by omega), wrap64_id ((i : Int) + 1) (by omega), drop_cons l i (by omega)]
    exact ih (i + 1) _ _ (by omega) (by omega) (by omega) (by omega) (by omega)
theorem ref_ck_ev (l : List Int) (hb : IsBytes l) (hl : l.length ≤ 140737488351232) : Ev (fun k => Z.customsref06_Checksum.f k l) (ck l) := ref_ck_loop l hb hl l.length 0 1 0 (by omega) (by omega) (by omega) (by omega) (by omega)
theorem ref_encode_j0 (k : Int) (p : List Int) (b : Bool) (hb : b = decide (¬ (k = 1 ∨ k = 2))) (hp : IsBytes p) : Ev (fun n => Z.customsref33_Encode.j0 n b k p) (encR k p) := by
  refine Ev.step (fun n => by rw [Z.customsref33_Encode.j0]) ?_
  unfold encR
  by_cases hk : k = 1 ∨ k = 2
  · rw [if_pos hk]
    refine ev_neg (by rw [hb]; simp only [decide_eq_true_eq]; exact fun h => h hk) ?_
    by_cases hl : p.length > 60000
    · rw [if_pos hl]
      exact ev_pos (by omega) (Ev.now _)
    · rw [if_neg hl]
      refine ev_neg (by omega) (ev_some ?_)
      have e : ([(wrap64 ((p.length : Int) / 256)) % 256, (p.length : Int) % 256, (wrap64 (255 - (wrap64 ((p.length : Int) / 256)))) % 256, 255 - ((p.length : Int) % 256), (k) % 256] : List Int) = head5 k p.length := by
        rw [wrap64_id ((p.length : Int) / 256) (by omega), wrap64_id (255 - (p.length : Int) / 256) (by omega)]
        simp only [head5, List.cons.injEq, and_true]
        refine ⟨?_, ?_, ?_, ?_, ?_⟩ <;> first | trivial | omega
      rw [e]
      refine ev_pos (by simp [head5]; omega) (ev_some ?_)
      have hb : IsBytes (head5 k p.length ++ p) := isBytes_append (head5_bytes k _ hk (by omega) (by omega)) hp
      refine Ev.bind (ref_ck_ev _ hb (by simp [head5]; omega)) (ev_some ?_)
      obtain ⟨c0, c1⟩ := ck_range (head5 k p.length ++ p)
      have e2 : ∀ c : Int, 0 ≤ c → c < 4294967296 → ([(wrap64 (Int.tdiv c 16777216)) % 256, (Int.tmod (wrap64 (Int.tdiv c 65536)) 256) % 256, (Int.tmod (wrap64 (Int.tdiv c 256)) 256) % 256, (Int.tmod c 256) % 256] : List Int) = sum4 c := by
        intro c c0 c1
        rw [Int.tdiv_eq_ediv_of_nonneg c0, Int.tdiv_eq_ediv_of_nonneg c0, Int.tdiv_eq_ediv_of_nonneg c0, wrap64_id (c / 16777216) (by omega), wrap64_id (c / 65536) (by omega), wrap64_id (c / 256) (by omega),
          Int.tmod_eq_emod_of_nonneg (show 0 ≤ c / 65536 by omega), Int.tmod_eq_emod_of_nonneg (show 0 ≤ c / 256 by omega), Int.tmod_eq_emod_of_nonneg c0]
        simp only [sum4, List.cons.injEq, and_true]
        refine ⟨?_, ?_, ?_, ?_⟩ <;> first | trivial | omega
      rw [e2 _ c0 c1]
      exact ev_pos (by simp [head5, sum4]; omega) (Ev.now _)
  · rw [if_neg hk]
    exact ev_pos (by rw [hb]; simpa using hk) (Ev.now _)
theorem ref_encode_ev (k : Int) (p : List Int) (hp : IsBytes p) : Ev (fun n => Z.customsref33_Encode.f n k p) (encR k p) := by
  refine Ev.congr (fun n => by rw [Z.customsref33_Encode.f]) ?_
  by_cases h : k = 1
  · exact ev_pos h (ref_encode_j0 k p false (by simp [h]) hp)
  · exact ev_neg h (ref_encode_j0 k p (k != 2) (by by_cases h2 : k = 2 <;> simp [h, h2]) hp)
end Go.Proofs.Ytfljnggpnndmkaa.Pure
