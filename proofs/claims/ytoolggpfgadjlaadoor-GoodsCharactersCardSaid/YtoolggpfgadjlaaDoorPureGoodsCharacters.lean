/- The plain law of customs/customslaw08.GoodsCharacters. Conditions: those each theorem states. -/
import Derived.Test.YtoolggpfgadjlaaDoorZcustomslaw08GoodsCharacters
import Derived.Test.YtoolggpfgadjlaaDoorOpn
import Derived.Test.YtoolggpfgadjlaaDoorCFns
import Derived.Test.YtoolggpfgadjlaaDoorAwake
namespace Go.Proofs.YtoolggpfgadjlaaDoor.Pure
open Go.RowKit Go.Proofs.YtoolggpfgadjlaaDoorW.PrintWords Go.Proofs.YtoolggpfgadjlaaDoorW.PrintLast Go.Proofs.YtoolggpfgadjlaaDoorW.PrintMore Go.Proofs.YtoolggpfgadjlaaDoor.Opening
set_option linter.unusedVariables false
theorem srt3_mem {α : Type} (lt : α → α → Bool) (l : List α) (h : l.length ≤ 3) : ∀ p ∈ srt3 lt l, p ∈ l := by
  match l, h with
  | [], _ => intro p hp; exact hp
  | [x], _ => intro p hp; exact hp
  | [x, y], _ =>
    intro p hp
    simp only [srt3] at hp
    split at hp <;> (simp at hp; rcases hp with rfl | rfl <;> simp)
  | [x, y, z], _ =>
    intro p hp
    simp only [srt3, List.append_nil] at hp
    split at hp <;> split at hp <;> (try split at hp) <;> (simp at hp; rcases hp with rfl | rfl | rfl <;> simp)
theorem loop_ev (S : List Z.S38) (hS : S.length ≤ 3) (ho : okL S) (hord : ∀ i, 0 < i → i < S.length → (Z.rd_T38 S (i : Int)).f1 ≤ (Z.rd_T38 S ((i - 1 : Nat) : Int)).f1) (ws : List ByteArray) (ms : List Z.S36) (hm : ms.length ≤ 3) (ps : List Z.S38) (hp : ps.length ≤ 3) (inc : Bool)
    (hfin : sumI (pS S) = 1000000 ∨ (S.length = 0 ∧ ms.length = 0 ∧ ps.length = 0)) : ∀ (d i : Nat) (s : Int), i + d = S.length → 0 ≤ s → s ≤ 1000000 * i → s + sumI ((pS S).drop i) = sumI (pS S) →
    Ev (fun k => Z.customslaw08_GoodsCharacters.l0 k S s (i : Int) ws ms ps inc) true := by
  have hpl : (pS S).length = S.length := by simp [pS]
  intro d
  induction d with
  | zero =>
    intro i s hi h0 h1 h2
    rw [List.drop_of_length_le (by omega)] at h2
    refine Ev.step (fun k => by rw [Z.customslaw08_GoodsCharacters.l0]) ?_
    refine ev_neg (by omega) ?_
    by_cases hs : s = 1000000
    · exact ev_pos hs (Ev.bind awake_ev (Ev.now _))
    · refine ev_neg hs ?_
      rcases hfin with hf | ⟨e1, e2, e3⟩
      · simp only [sumI] at h2; omega
      · refine ev_pos (by omega) (ev_pos ?_ (Ev.bind awake_ev (Ev.now _)))
        rw [wrap64_id _ (by omega)]
        omega
  | succ d ih =>
    intro i s hi h0 h1 h2
    have hr : 1 ≤ (Z.rd_T38 S (i : Int)).f1 ∧ (Z.rd_T38 S (i : Int)).f1 ≤ 1000000 := by
      unfold Z.rd_T38
      rw [List.getD_eq_getElem?_getD, show ((i : Int)).toNat = i from rfl, List.getElem?_eq_getElem (by omega)]
      exact ho _ (List.getElem_mem _)
    have hd := drop_rd (pS S) i (by omega)
    rw [rd_map38 S i (by omega)] at hd
    rw [hd] at h2
    simp only [sumI] at h2
    have next : Ev (fun k => Z.customslaw08_GoodsCharacters.l0 k S (wrap64 (s + (Z.rd_T38 S (i : Int)).f1)) (wrap64 ((i : Int) + 1)) ws ms ps inc) true := by
      rw [wrap64_id (s + _) (by omega), wrap64_id ((i : Int) + 1) (by omega)]
      exact ih (i + 1) _ (by omega) (by omega) (by omega) (by omega)
    refine Ev.step (fun k => by rw [Z.customslaw08_GoodsCharacters.l0]) ?_
    refine ev_pos (by omega) (ev_pos (by omega) ?_)
    by_cases hz : (i : Int) > 0
    · refine ev_pos hz ?_
      rw [wrap64_id ((i : Int) - 1) (by omega)]
      refine ev_pos (by omega) (ev_pos (by omega) (ev_neg ?_ next))
      have := hord i (by omega) (by omega)
      rw [show ((i : Int) - 1) = ((i - 1 : Nat) : Int) by omega]
      omega
    · exact ev_neg hz next
theorem GoodsCharacters (l0 : (List Int)) (w0 : (l0.length * 8 ≤ 140737488351232 ∧ ∀ z0 ∈ l0, (Lit.int .i64 z0).wf = true)) : ∃ k, Z.customslaw08_GoodsCharacters.f k l0 = some true := by
  obtain ⟨ws, ms, ps, inc, hg, hok⟩ := good_ex l0 (fun x hx => i64_of (w0.2 x hx)) (by omega)
  obtain ⟨m1, m2, m3, m4⟩ := mats_zero ms hok.hm
  obtain ⟨p1, p2, p3, p4⟩ := parts_zero ps hok.hp
  have hpw : ∀ p ∈ ps, p.f0.length ≤ 4 := by
    rcases hok.hp with rfl | ⟨_, hw, _⟩
    · intro p hp; cases hp
    · exact fun p hp => (hw p hp).2.2
  have hpc : pS (chars ms ps) = if ps.length = 0 then mS ms else pS ps := by
    unfold chars
    split
    · unfold pS mS
      rw [List.map_map]
      rfl
    · rfl
  have h3 : (chars ms ps).length ≤ 3 := by
    unfold chars
    split
    · rw [List.length_map]; exact m1
    · exact p1
  have hall : (pS (chars ms ps)).all okS = true := by rw [hpc]; split <;> assumption
  have ho : okL (chars ms ps) := fun p hp => of_decide_eq_true (List.all_eq_true.1 hall p.f1 (List.mem_map_of_mem hp))
  have hlen : ∀ p ∈ chars ms ps, p.f0.length ≤ 4 := by
    unfold chars
    split
    · intro p hp
      obtain ⟨m, _, rfl⟩ := List.mem_map.1 hp
      exact Nat.le_of_ble_eq_true rfl
    · exact hpw
  have hfin : sumI (pS (chars ms ps)) = 1000000 ∨ ((chars ms ps).length = 0 ∧ ms.length = 0 ∧ ps.length = 0) := by
    rw [hpc]
    by_cases hz : ps.length = 0
    · rw [if_pos hz]
      rcases m4 with h | h
      · have hm0 : ms.length = 0 := by have := congrArg List.length h; simpa [mS] using this
        right
        refine ⟨?_, hm0, hz⟩
        unfold chars
        rw [if_pos hz, List.length_map]
        exact hm0
      · exact .inl h
    · rw [if_neg hz]
      rcases p4 with h | h
      · have hp0 : ps.length = 0 := by have := congrArg List.length h; simpa [pS] using this
        exact absurd hp0 hz
      · exact .inl h
  obtain ⟨s1, s2, s3, s4⟩ := sort3_ord (chars ms ps) h3 ho
  refine Ev.rounds (g := fun k => Z.customslaw08_GoodsCharacters.f k l0) ?_
  refine Ev.congr (fun k => by rw [Z.customslaw08_GoodsCharacters.f]) ?_
  refine Ev.bind hg (Ev.bind (chars_ev ws ms (by omega) ps (by omega) (fun p hp => by have := hpw p hp; omega) inc) ?_)
  have hR := rchars_ev ws ms (by omega) ps (by omega) inc
  rw [same3 _ h3 ho] at hR
  refine Ev.bind hR (Ev.bind (sameParts_ev _ (by omega) (fun p hp => ?_)) (ev_pos rfl ?_))
  · have hm : p ∈ chars ms ps := by
      unfold sortF at hp
      rw [ins_le3 _ _ h3] at hp
      exact srt3_mem _ _ h3 p hp
    have := hlen p hm
    omega
  · exact loop_ev _ (by omega) s4 s3 ws ms m1 ps p1 inc (by rw [s2, s1]; exact hfin) _ 0 0 (Nat.zero_add _) (by omega) (by omega) (by rw [List.drop_zero, Int.zero_add])
end Go.Proofs.YtoolggpfgadjlaaDoor.Pure
