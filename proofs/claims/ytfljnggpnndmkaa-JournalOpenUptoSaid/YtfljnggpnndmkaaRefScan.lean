/- What the reference's Scan computes. Conditions: those each theorem states. -/
import Derived.Test.YtfljnggpnndmkaaRefEnc
import Derived.Test.YtfljnggpnndmkaaZcustomsref33Scan
namespace Go.Proofs.Ytfljnggpnndmkaa.Pure
open Go.RowKit Go.Proofs.YtfljnggpnndmkaaW.PrintWords Go.Proofs.YtfljnggpnndmkaaW.PrintLast Go.Proofs.YtfljnggpnndmkaaW.PrintMore Go.Proofs.Ytfljnggpnndmkaa.Opening
set_option linter.unusedVariables false
set_option linter.unusedSimpArgs false
theorem ref_scan_loop (b : List Int) (hb : IsBytes b) (hl : b.length ≤ 4000000000000) : ∀ (m p : Nat) (acc : List Z.S57), p ≤ b.length → b.length - p ≤ m → acc.length ≤ p → Ev (fun k => Z.customsref33_Scan.l0 k b acc (p : Int)) (acc ++ (scanF m b p).1, ((scanF m b p).2 : Int)) := by
  intro m
  induction m with
  | zero =>
    intro p acc hp hm hacc
    refine Ev.step (fun k => by rw [Z.customsref33_Scan.l0]) ?_
    rw [wrap64_id ((p : Int) + 9) (by omega)]
    refine ev_neg (by omega) ?_
    simp only [scanF, List.append_nil]
    exact Ev.now _
  | succ m ih =>
    intro p acc hp hm hacc
    have hdl : (b.drop p).length = b.length - p := List.length_drop
    refine Ev.step (fun k => by rw [Z.customsref33_Scan.l0]) ?_
    rw [wrap64_id ((p : Int) + 9) (by omega), wrap64_id ((p : Int) + 1) (by omega)]
    by_cases h9 : 9 ≤ (b.drop p).length
    · have hs := isBytes_drop hb p
      obtain ⟨q00, q01⟩ := rd_byte hs 0 (by omega) (by omega)
      obtain ⟨q10, q11⟩ := rd_byte hs 1 (by omega) (by omega)
      obtain ⟨q40, q41⟩ := rd_byte hs 4 (by omega) (by omega)
      have d0 : rd b (p : Int) = rd (b.drop p) 0 := by rw [rd_drop _ _ 0 (by omega)]; simp
      have d1 : rd b ((p : Int) + 1) = rd (b.drop p) 1 := by rw [rd_drop _ _ 1 (by omega)]
      have d4 : rd b ((p : Int) + 4) = rd (b.drop p) 4 := by rw [rd_drop _ _ 4 (by omega)]
      rw [d0, d1, wrap64_id (rd (b.drop p) 0) (by omega), wrap64_id (rd (b.drop p) 1) (by omega), wrap64_id (rd (b.drop p) 0 * 256) (by omega), wrap64_id (rd (b.drop p) 0 * 256 + rd (b.drop p) 1) (by omega)]
      refine ev_pos (by omega) (ev_pos (by omega) (ev_pos (by omega) (ev_pos (by omega) (ev_pos (by omega) ?_))))
      have hn : rd (b.drop p) 0 * 256 + rd (b.drop p) 1 = lenAt (b.drop p) := rfl
      rw [hn]
      have l0 : 0 ≤ lenAt (b.drop p) := by rw [← hn]; omega
      have l1 : lenAt (b.drop p) ≤ 65535 := by rw [← hn]; omega
      have done : ¬ isFrame (b.drop p) → Ev (fun _ => some (acc, (p : Int))) (acc ++ (scanF (m + 1) b p).1, ((scanF (m + 1) b p).2 : Int)) := by
        intro hnf
        simp only [scanF, frame_neg hnf, List.append_nil]
        exact Ev.now _
      have stop : ∀ {x : Bool}, x = true → ¬ isFrame (b.drop p) → Ev (fun k => Z.customsref33_Scan.j1 k b acc (p : Int) (lenAt (b.drop p)) x) (acc ++ (scanF (m + 1) b p).1, ((scanF (m + 1) b p).2 : Int)) := by
        intro x hx hnf
        refine Ev.step (fun k => by rw [Z.customsref33_Scan.j1]) ?_
        exact ev_pos hx (done hnf)
      by_cases h6 : lenAt (b.drop p) > 60000
      · exact ev_pos h6 (stop rfl (fun hf => by have := hf.2.2.1; omega))
      · refine ev_neg h6 ?_
        rw [wrap64_id ((p : Int) + 9 + lenAt (b.drop p)) (by omega)]
        by_cases hlen : 9 + lenAt (b.drop p) ≤ ((b.drop p).length : Int)
        · refine Ev.step (fun k => by rw [Z.customsref33_Scan.j1]) ?_
          rw [wrap64_id ((p : Int) + 4) (by omega), wrap64_id ((p : Int) + 5) (by omega), wrap64_id ((p : Int) + 5 + lenAt (b.drop p)) (by omega), wrap64_id ((p : Int) + 9) (by omega), wrap64_id ((p : Int) + 9 + lenAt (b.drop p)) (by omega), d4, wrap64_id (rd (b.drop p) 4) (by omega)]
          have ep : (b.take ((p : Int) + 5 + lenAt (b.drop p)).toNat).drop ((p : Int) + 5).toNat = ((b.drop p).take (5 + lenAt (b.drop p)).toNat).drop 5 := by
            rw [show ((p : Int) + 5).toNat = p + 5 by omega, show ((p : Int) + 5 + lenAt (b.drop p)).toNat = p + (5 + lenAt (b.drop p)).toNat by omega, ← List.drop_drop, List.drop_take, show p + (5 + lenAt (b.drop p)).toNat - p = (5 + lenAt (b.drop p)).toNat by omega]
          have ew : (b.take ((p : Int) + 9 + lenAt (b.drop p)).toNat).drop (p : Int).toNat = (b.drop p).take (9 + lenAt (b.drop p)).toNat := by
            rw [Int.toNat_natCast, show ((p : Int) + 9 + lenAt (b.drop p)).toNat = p + (9 + lenAt (b.drop p)).toNat by omega, List.drop_take, show p + (9 + lenAt (b.drop p)).toNat - p = (9 + lenAt (b.drop p)).toNat by omega]
          rw [ep, ew]
          have hpl : (((b.drop p).take (5 + lenAt (b.drop p)).toNat).drop 5).length = (lenAt (b.drop p)).toNat := by rw [List.length_drop, List.length_take]; omega
          have hpb : IsBytes (((b.drop p).take (5 + lenAt (b.drop p)).toNat).drop 5) := isBytes_drop (isBytes_take hs _) _
          refine ev_neg (by simp only [decide_eq_true_eq]; omega) (ev_pos (by omega) (ev_pos (by omega) (ev_some (ev_pos (by omega) (ev_pos (by omega) (ev_pos (by omega) (ev_pos (by simp only [List.length_nil]; omega) (ev_some ?_))))))))
          rw [List.nil_append]
          refine Ev.bind (ref_encode_ev _ _ hpb) ?_
          by_cases hk : rd (b.drop p) 4 = 1 ∨ rd (b.drop p) 4 = 2
          · have er : encR (rd (b.drop p) 4) (((b.drop p).take (5 + lenAt (b.drop p)).toNat).drop 5) = (enc (rd (b.drop p) 4) (((b.drop p).take (5 + lenAt (b.drop p)).toNat).drop 5), 0) := by
              unfold encR
              rw [if_pos hk, if_neg (by omega)]
            rw [er]
            refine ev_pos rfl (ev_pos (by omega) (ev_pos (by omega) (ev_pos (by omega) ?_)))
            rw [sameBytes_eq _ _ (enc_bytes _ _ hk hpb (by omega)) (isBytes_take hs _)]
            refine ev_some ?_
            have hef := enc_frame _ hs h9 (by omega) hk hlen l0
            by_cases hf : isFrame (b.drop p)
            · refine ev_pos (by simpa using hef.2 hf) (ev_pos (by omega) ?_)
              have hfl := frame_len hs hf
              have := ih (p + 9 + (lenAt (b.drop p)).toNat) (acc ++ [⟨rd (b.drop p) 4, ((b.drop p).take (5 + lenAt (b.drop p)).toNat).drop 5⟩]) (by omega) (by omega) (by simp; omega)
              rw [scanF, frame_pos hf]
              simp only [hfl.1]
              rw [List.append_assoc] at this
              rw [show ((p : Int) + 9 + lenAt (b.drop p)) = ((p + 9 + (lenAt (b.drop p)).toNat : Nat) : Int) by omega]
              exact this
            · exact ev_neg (by simp only [decide_eq_true_eq]; exact fun h => hf (hef.1 h)) (done hf)
          · have er : encR (rd (b.drop p) 4) (((b.drop p).take (5 + lenAt (b.drop p)).toNat).drop 5) = ([], 2) := by
              unfold encR
              rw [if_neg hk]
            rw [er]
            exact ev_neg (by decide) (done (fun hf => hk hf.2.2.2.1))
        · exact stop (by simp only [decide_eq_true_eq]; omega) (fun hf => hlen hf.2.2.2.2.1)
    · refine ev_neg (by omega) ?_
      have hnf : ¬ isFrame (b.drop p) := fun hf => h9 hf.1
      simp only [scanF, frame_neg hnf, List.append_nil]
      exact Ev.now _
theorem ref_scan_ev (b : List Int) (hb : IsBytes b) (hl : b.length ≤ 4000000000000) : Ev (fun k => Z.customsref33_Scan.f k b) ((scanF b.length b 0).1, ((scanF b.length b 0).2 : Int)) := ref_scan_loop b hb hl b.length 0 [] (by omega) (by omega) (by simp)
end Go.Proofs.Ytfljnggpnndmkaa.Pure
