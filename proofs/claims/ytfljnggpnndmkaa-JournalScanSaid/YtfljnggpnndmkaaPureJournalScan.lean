/- The plain law of customslaw34.JournalScan. Conditions: those each theorem states. -/
import Derived.Test.YtfljnggpnndmkaaZcustomslaw34JournalScan
import Derived.Test.YtfljnggpnndmkaaOpn
import Derived.Test.YtfljnggpnndmkaaCutFns
namespace Go.Proofs.Ytfljnggpnndmkaa.Pure
open Go.RowKit Go.Proofs.YtfljnggpnndmkaaW.PrintWords Go.Proofs.YtfljnggpnndmkaaW.PrintLast Go.Proofs.YtfljnggpnndmkaaW.PrintMore Go.Proofs.Ytfljnggpnndmkaa.Opening

set_option linter.unusedVariables false
set_option linter.unusedSimpArgs false
def kd (l1 : List Bool) (i : Nat) : Int := if l1.getD i false = true then 2 else 1
def frames (x0 : List (List Int)) (l1 : List Bool) : List Z.S57 := x0.mapIdx fun i p => ⟨kd l1 i, p⟩
theorem frames_length (x0 : List (List Int)) (l1 : List Bool) : (frames x0 l1).length = x0.length := by simp [frames]
theorem frames_at (x0 : List (List Int)) (l1 : List Bool) (i : Nat) (h : i < x0.length) : Z.rd_T57 (frames x0 l1) (i : Int) = ⟨kd l1 i, Z.rd_L1 x0 (i : Int)⟩ := by
  simp [Z.rd_T57, Z.rd_L1, frames, List.getD_eq_getElem?_getD, List.getElem?_mapIdx, List.getElem?_eq_getElem h]
theorem frames_good (x0 : List (List Int)) (l1 : List Bool) (g0 : ∀ p ∈ x0, IsBytes p ∧ p.length ≤ 300) : ∀ f ∈ frames x0 l1, Good f := by
  intro f hf
  simp only [frames, List.mem_mapIdx] at hf
  obtain ⟨i, hi, rfl⟩ := hf
  have := g0 _ (List.getElem_mem hi)
  refine ⟨?_, this.1, by simp only; omega⟩
  simp only [kd]
  split
  · exact .inr rfl
  · exact .inl rfl
theorem scan_loop0 (x0 : List (List Int)) (l1 : List Bool) (l2 : List Int) (hl1 : l1.length ≤ 140737488351232) (g0 : x0.length ≤ 16 ∧ ∀ p ∈ x0, IsBytes p ∧ p.length ≤ 300) (r : Bool) : ∀ (d i : Nat) (b : List Int), i + d = x0.length → b.length ≤ 309 * i →
    Ev (fun k => Z.customslaw34_JournalScan.l0 k x0 l1 l2 (b ++ encAll ((frames x0 l1).drop i)) (x0.length : Int)) r → Ev (fun k => Z.customslaw34_JournalScan.l0 k x0 l1 l2 b (i : Int)) r := by
  intro d
  induction d with
  | zero =>
    intro i b hi hs h
    rw [List.drop_of_length_le (by rw [frames_length]; omega)] at h
    simp only [encAll, List.append_nil] at h
    rw [show i = x0.length by omega]
    exact h
  | succ d ih =>
    intro i b hi hs h
    have hm := g0.2 _ (rdL1_mem x0 i (by omega))
    have hd := drop_cons57 (frames x0 l1) i (by rw [frames_length]; omega)
    rw [frames_at x0 l1 i (by omega)] at hd
    rw [hd] at h
    simp only [encAll, encF] at h
    rw [← List.append_assoc] at h
    have el := enc_length (kd l1 i) (Z.rd_L1 x0 (i : Int))
    have next := ih (i + 1) (b ++ enc (kd l1 i) (Z.rd_L1 x0 (i : Int))) (by omega) (by rw [List.length_append]; omega) h
    have er : ∀ c : Int, (c = 1 ∨ c = 2) → encR c (Z.rd_L1 x0 (i : Int)) = (enc c (Z.rd_L1 x0 (i : Int)), 0) := fun c hc => by unfold encR; rw [if_pos hc, if_neg (by omega)]
    have j1 : ∀ x : Bool, kd l1 i = (if x = true then 2 else 1) → Ev (fun k => Z.customslaw34_JournalScan.j1 k x0 l1 l2 b (i : Int) 1 x) r := by
      intro x hx
      refine Ev.step (fun k => by rw [Z.customslaw34_JournalScan.j1]) ?_
      cases x with
      | true =>
        rw [if_pos rfl] at hx
        rw [hx] at next
        refine ev_pos rfl (ev_pos (by omega) (ev_pos (by omega) (Ev.bind (encode_ev 2 _ hm.1) ?_)))
        rw [er 2 (.inr rfl), wrap64_id ((i : Int) + 1) (by omega)]
        exact ev_pos rfl (ev_pos (by rw [enc_length]; omega) next)
      | false =>
        rw [if_neg (by decide)] at hx
        rw [hx] at next
        refine ev_neg (by decide) (ev_pos (by omega) (ev_pos (by omega) (Ev.bind (encode_ev 1 _ hm.1) ?_)))
        rw [er 1 (.inl rfl), wrap64_id ((i : Int) + 1) (by omega)]
        exact ev_pos rfl (ev_pos (by rw [enc_length]; omega) next)
    refine Ev.step (fun k => by rw [Z.customslaw34_JournalScan.l0]) (ev_pos (by omega) ?_)
    by_cases h1 : (i : Int) < (l1.length : Int)
    · exact ev_pos h1 (ev_pos (by omega) (j1 _ (by simp [kd, rdOf])))
    · have e0 : l1.getD i false = false := by rw [List.getD_eq_getElem?_getD, List.getElem?_eq_none (by omega)]; rfl
      exact ev_neg h1 (j1 _ (by simp only [kd, e0]))
theorem scan_last (x0 : List (List Int)) (l1 : List Bool) (rest : List Int) (hl1 : l1.length ≤ 140737488351232) (g0 : x0.length ≤ 16 ∧ ∀ p ∈ x0, IsBytes p ∧ p.length ≤ 300) (hr : IsBytes rest) (h6 : rest.length ≤ 6) :
    Ev (fun k => Z.customslaw34_JournalScan.j2 k x0 l1 rest (encAll (frames x0 l1))) true := by
  have hg := frames_good x0 l1 g0.2
  have hfl := frames_length x0 l1
  have hf : frameAt rest = none := frame_neg fun h => by have := h.1; omega
  have hbl : (encAll (frames x0 l1)).length ≤ 309 * x0.length := by
    rw [← hfl]
    have : ∀ fs : List Z.S57, (∀ f ∈ fs, f.f1.length ≤ 300) → (encAll fs).length ≤ 309 * fs.length := by
      intro fs
      induction fs with
      | nil => simp [encAll]
      | cons f fs ih =>
        intro h
        have h1 := h f (List.mem_cons_self)
        have h2 := ih (fun g hg => h g (List.mem_cons_of_mem _ hg))
        have h3 : (encF f).length = f.f1.length + 9 := enc_length _ _
        simp only [encAll, List.length_append, List.length_cons]
        omega
    refine this _ fun f hf => ?_
    simp only [frames, List.mem_mapIdx] at hf
    obtain ⟨i, hi, rfl⟩ := hf
    exact (g0.2 _ (List.getElem_mem hi)).2
  have loop : ∀ (d i : Nat), i + d = x0.length → Ev (fun k => Z.customslaw34_JournalScan.l1 k x0 l1 (frames x0 l1) (i : Int)) true := by
    intro d
    induction d with
    | zero =>
      intro i hi
      exact Ev.step (fun k => by rw [Z.customslaw34_JournalScan.l1]) (ev_neg (by omega) (Ev.bind awake34 (Ev.now _)))
    | succ d ih =>
      intro i hi
      have next := ih (i + 1) (by omega)
      refine Ev.step (fun k => by rw [Z.customslaw34_JournalScan.l1]) (ev_pos (by omega) (ev_pos (by omega) (ev_pos (by omega) ?_)))
      rw [frames_at x0 l1 i (by omega), sameBytes_self, wrap64_id ((i : Int) + 1) (by omega)]
      refine ev_some (ev_pos rfl ?_)
      by_cases h1 : (i : Int) < (l1.length : Int)
      · refine ev_pos h1 (ev_neg ?_ next)
        simp only [rdOf, kd, Int.toNat_natCast]
        by_cases hx : l1.getD i false = true
        · rw [if_pos hx, hx]; decide
        · rw [if_neg hx, Bool.eq_false_iff.2 hx]; decide
      · refine ev_neg h1 (ev_neg ?_ next)
        have : l1.getD i false = false := by rw [List.getD_eq_getElem?_getD, List.getElem?_eq_none (by omega)]; rfl
        simp only [kd, this]
        decide
  refine Ev.step (fun k => by rw [Z.customslaw34_JournalScan.j2]) ?_
  refine ev_some ?_
  rw [List.nil_append, List.length_nil]
  refine ev_pos (by omega) (ev_some (ev_pos (by omega) ?_))
  refine Ev.bind (scan_ev (encAll (frames x0 l1) ++ rest) (isBytes_append (encAll_bytes _ hg) hr) (by rw [List.length_append]; omega)) ?_
  rw [scan_all _ rest hf hg]
  refine ev_pos rfl (Ev.step (fun k => by rw [Z.customslaw34_JournalScan.j3]) (ev_neg (by simp [hfl]) ?_))
  exact loop x0.length 0 (by omega)
theorem JournalScan (l0 : (List (List Int))) (l1 : (List Bool)) (l2 : (List Int)) (w0 : (l0.length * 24 ≤ 140737488351232 ∧ ∀ z0 ∈ l0, (z0.length * 1 ≤ 140737488351232 ∧ ∀ z1 ∈ z0, (Lit.int .u8 z1).wf = true))) (w1 : (l1.length * 1 ≤ 140737488351232 ∧ ∀ z0 ∈ l1, True)) (w2 : (l2.length * 1 ≤ 140737488351232 ∧ ∀ z0 ∈ l2, (Lit.int .u8 z0).wf = true)) : ∃ k, Z.customslaw34_JournalScan.f k l0 l1 l2 = some true := by
  have g0 := cut2_good l0 (fun p hp => isBytes_of (w0.2 p hp).2)
  have b2 := isBytes_of w2.2
  refine Ev.rounds (Ev.congr (fun k => by rw [Z.customslaw34_JournalScan.f]) ?_)
  refine Ev.bind (cut_ev l0 (by omega)) ?_
  refine scan_loop0 (cut2 l0) l1 l2 (by omega) g0 _ (cut2 l0).length 0 [] (by omega) (by simp) ?_
  simp only [List.drop_zero, List.nil_append]
  refine Ev.step (fun k => by rw [Z.customslaw34_JournalScan.l0]) (ev_neg (by omega) ?_)
  have e : ∀ rest : List Int, IsBytes rest → rest.length ≤ 6 → Ev (fun k => Z.customslaw34_JournalScan.j2 k (cut2 l0) l1 rest (encAll (frames (cut2 l0) l1))) true := fun rest h1 h2 => scan_last (cut2 l0) l1 rest (by omega) g0 h1 h2
  by_cases h6 : (l2.length : Int) > 6
  · exact ev_pos h6 (ev_pos (by omega) (e _ (isBytes_take b2 6) (by rw [List.length_take]; omega)))
  · exact ev_neg h6 (e _ b2 (by omega))
end Go.Proofs.Ytfljnggpnndmkaa.Pure
