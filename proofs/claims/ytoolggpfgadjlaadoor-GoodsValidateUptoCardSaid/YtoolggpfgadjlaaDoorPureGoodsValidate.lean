/- The plain law of customs/customslaw08.GoodsValidate. Conditions: those each theorem states. -/
import Derived.Test.YtoolggpfgadjlaaDoorZcustomslaw08GoodsValidate
import Derived.Test.YtoolggpfgadjlaaDoorOpn
import Derived.Test.YtoolggpfgadjlaaDoorMade
import Derived.Test.YtoolggpfgadjlaaDoorAwake
namespace Go.Proofs.YtoolggpfgadjlaaDoor.Pure
open Go.RowKit Go.Proofs.YtoolggpfgadjlaaDoorW.PrintWords Go.Proofs.YtoolggpfgadjlaaDoorW.PrintLast Go.Proofs.YtoolggpfgadjlaaDoorW.PrintMore Go.Proofs.YtoolggpfgadjlaaDoor.Opening
set_option linter.unusedVariables false
theorem few_eq (l : List ByteArray) : Z.customslaw08_few.f l = some (l.take 30) := by
  unfold Z.customslaw08_few.f
  by_cases h : (l.length : Int) > 30
  · rw [if_pos h, if_pos (by omega)]
  · rw [if_neg h, List.take_of_length_le (by omega)]
theorem small_eq (ws : List ByteArray) (ms : List Z.S36) (ps : List Z.S38) (b : Bool) : Z.customslaw08_small.f ws ms ps b = some (ws.take 30, ms.take 12, ps.take 12, b) := by
  unfold Z.customslaw08_small.f
  rw [few_eq, Option.bind_some]
  by_cases h : (ms.length : Int) > 12
  · rw [if_pos h, if_pos (by omega), Option.bind_some]
    by_cases h2 : (ps.length : Int) > 12
    · rw [if_pos h2, if_pos (by omega)]
    · rw [if_neg h2, List.take_of_length_le (l := ps) (by omega)]
  · rw [if_neg h, List.take_of_length_le (l := ms) (by omega)]
    by_cases h2 : (ps.length : Int) > 12
    · rw [if_pos h2, if_pos (by omega)]
    · rw [if_neg h2, List.take_of_length_le (l := ps) (by omega)]
theorem FinL.take {l : List ByteArray} (h : FinL l) (n : Nat) : FinL (l.take n) := ⟨by have := h.1; rw [List.length_take]; omega, fun s hs => h.2 s (List.mem_of_mem_take hs)⟩
theorem FinG.take {ws : List ByteArray} {ms : List Z.S36} {ps : List Z.S38} (h : FinG ws ms ps) (a b c : Nat) : FinG (ws.take a) (ms.take b) (ps.take c) :=
  ⟨h.hw.take a, fun p hp => h.hm p (List.mem_of_mem_take hp), fun p hp => h.hp p (List.mem_of_mem_take hp)⟩
theorem raw_fin {ws : List ByteArray} {ms : List Z.S36} {ps : List Z.S38} {B : Nat} (hB : B ≤ 1048576) (h1 : bkL (fun x => x.size + 1) ws ≤ B) (h2 : bkL (fun x : Z.S36 => ((x.f0.size + 1) + 1)) ms ≤ B) (h3 : bkL (fun x : Z.S38 => (bkL (fun x => x.size + 1) x.f0 + 1)) ps ≤ B) : FinG ws ms ps := by
  refine ⟨⟨?_, fun s hs => ?_⟩, fun p hp => ?_, fun p hp => ⟨?_, fun s hs => ?_⟩⟩
  · have := length_bkL (fun x : ByteArray => x.size + 1) (fun x => by omega) ws; omega
  · have := mem_bkL (fun x : ByteArray => x.size + 1) hs; omega
  · have := mem_bkL (fun x : Z.S36 => ((x.f0.size + 1) + 1)) hp; omega
  · have a1 := mem_bkL (fun x : Z.S38 => (bkL (fun x => x.size + 1) x.f0 + 1)) hp
    have a2 := length_bkL (fun x : ByteArray => x.size + 1) (fun x => by omega) p.f0
    omega
  · have a1 := mem_bkL (fun x : Z.S38 => (bkL (fun x => x.size + 1) x.f0 + 1)) hp
    have a2 := mem_bkL (fun x : ByteArray => x.size + 1) hs
    omega
-- the two answer alike, and then the fixed description
theorem both_ev {f : Nat → Option Bool} (ws : List ByteArray) (ms : List Z.S36) (ps : List Z.S38) (b : Bool) (hf : FinG ws ms ps) :
    Ev (fun k => (Z.goods_Validate.f k ws ms ps b).bind fun t => (Z.customsref08_Good.f k ws ms ps b).bind fun u => if t = u then ((Z.customslaw08_awake.f k).bind fun v => some v) else none) true :=
  Ev.bind (validate_ev ws ms ps b) (Ev.bind (ref_ev ws ms ps b hf) (ev_pos rfl (Ev.bind awake_ev (Ev.now _))))
theorem GoodsValidate (l0_0 : (List ByteArray)) (l0_1 : (List Z.S36)) (l0_2 : (List Z.S38)) (a0_3 : Bool) (l1 : (List Int)) (a2 : Int) (hb : bkL (fun x => x.size + 1) l0_0 + bkL (fun x => ((x.f0.size + 1) + 1)) l0_1 + bkL (fun x => (bkL (fun x => x.size + 1) x.f0 + 1)) l0_2 + 1 + bkL (fun _ => 1) l1 + 1 ≤ 1048576) (w0_0 : (l0_0.length * 16 ≤ 140737488351232 ∧ ∀ z0 ∈ l0_0, True)) (w0_1 : (l0_1.length * 24 ≤ 140737488351232 ∧ ∀ z0 ∈ l0_1, (True ∧ (Lit.int .i64 z0.f1).wf = true))) (w0_2 : (l0_2.length * 32 ≤ 140737488351232 ∧ ∀ z0 ∈ l0_2, ((z0.f0.length * 16 ≤ 140737488351232 ∧ ∀ z1 ∈ z0.f0, True) ∧ (Lit.int .i64 z0.f1).wf = true))) (w0_3 : True) (w1 : (l1.length * 8 ≤ 140737488351232 ∧ ∀ z0 ∈ l1, (Lit.int .i64 z0).wf = true)) (w2 : (Lit.int .i64 a2).wf = true) : ∃ k, Z.customslaw08_GoodsValidate.f k l0_0 l0_1 l0_2 a0_3 l1 a2 = some true := by
  have hraw : FinG l0_0 l0_1 l0_2 := raw_fin (B := 1048576) (Nat.le_refl _) (by omega) (by omega) (by omega)
  obtain ⟨ws, ms, ps, inc, hg, hok⟩ := good_ex l1 (fun x hx => i64_of (w1.2 x hx)) (by omega)
  have hs := hraw.take 30 12 12
  generalize hr0 : l0_0.take 30 = rws at hs
  generalize hr1 : l0_1.take 12 = rms at hs
  generalize hr2 : l0_2.take 12 = rps at hs
  refine Ev.rounds (g := fun k => Z.customslaw08_GoodsValidate.f k l0_0 l0_1 l0_2 a0_3 l1 a2) ?_
  refine Ev.congr (fun k => by rw [Z.customslaw08_GoodsValidate.f, small_eq, hr0, hr1, hr2]) ?_
  refine ev_some (Ev.bind hg ?_)
  refine Ev.bind (validate_ev _ _ _ _) (Ev.bind (ref_ev _ _ _ _ hs) (ev_pos rfl (Ev.bind (validate_ev _ _ _ _) ?_)))
  rw [show goodE ws ms ps = 0 from goodE_zero hok]
  refine Ev.step (fun k => by rw [Z.customslaw08_GoodsValidate.j0]) ?_
  refine ev_neg (by decide) ?_
  obtain ⟨v, hv, v0, v3⟩ := within_ex a2 3 (i64_of w2) (by decide) (by decide)
  rw [hv]
  refine ev_some ?_
  have hf := hok.fin
  by_cases c0 : v = 0
  · exact ev_pos c0 (both_ev (f := fun _ => none) _ _ _ _ ⟨hs.hw, hf.hm, hf.hp⟩)
  · refine ev_neg c0 ?_
    by_cases c1 : v = 1
    · exact ev_pos c1 (both_ev (f := fun _ => none) _ _ _ _ ⟨hf.hw, hs.hm, hf.hp⟩)
    · exact ev_neg c1 (both_ev (f := fun _ => none) _ _ _ _ ⟨hf.hw, hf.hm, hs.hp⟩)
end Go.Proofs.YtoolggpfgadjlaaDoor.Pure
