/- The plain law of customs/customslaw08.GoodsFormat. Conditions: those each theorem states. -/
import Derived.Test.YtoolggpfgadjlaaDoorZcustomslaw08GoodsFormat
import Derived.Test.YtoolggpfgadjlaaDoorOpn
import Derived.Test.YtoolggpfgadjlaaDoorParseFns
import Derived.Test.YtoolggpfgadjlaaDoorAwake
namespace Go.Proofs.YtoolggpfgadjlaaDoor.Pure
open Go.RowKit Go.Proofs.YtoolggpfgadjlaaDoorW.PrintWords Go.Proofs.YtoolggpfgadjlaaDoorW.PrintLast Go.Proofs.YtoolggpfgadjlaaDoorW.PrintMore Go.Proofs.YtoolggpfgadjlaaDoor.Opening
set_option linter.unusedVariables false
theorem few_eq (l : List ByteArray) : Z.customslaw08_few.f l = some (l.take 30) := by
  unfold Z.customslaw08_few.f
  by_cases h : (l.length : Int) > 30
  · rw [if_pos h, if_pos (by omega)]
  · rw [if_neg h, List.take_of_length_le (by omega)]
theorem small_eq (ws : List ByteArray) (ms : List Z.S36) (ps : List Z.S38) (b : Bool) : Z.customslaw08_small.f ws ms ps b = some (ws.take 30, ms.take 12, ps.take 12, b) := by
  unfold Z.customslaw08_small.f
  rw [few_eq, Option.bind_some]
  by_cases h : (ms.length : Int) > 12
  · rw [if_pos h, if_pos (by omega), Option.bind_some]
    by_cases h2 : (ps.length : Int) > 12
    · rw [if_pos h2, if_pos (by omega)]
    · rw [if_neg h2, List.take_of_length_le (l := ps) (by omega)]
  · rw [if_neg h, List.take_of_length_le (l := ms) (by omega)]
    by_cases h2 : (ps.length : Int) > 12
    · rw [if_pos h2, if_pos (by omega)]
    · rw [if_neg h2, List.take_of_length_le (l := ps) (by omega)]
theorem FinL.take {l : List ByteArray} (h : FinL l) (n : Nat) : FinL (l.take n) := ⟨by have := h.1; rw [List.length_take]; omega, fun s hs => h.2 s (List.mem_of_mem_take hs)⟩
theorem FinG.take {ws : List ByteArray} {ms : List Z.S36} {ps : List Z.S38} (h : FinG ws ms ps) (a b c : Nat) : FinG (ws.take a) (ms.take b) (ps.take c) :=
  ⟨h.hw.take a, fun p hp => h.hm p (List.mem_of_mem_take hp), fun p hp => h.hp p (List.mem_of_mem_take hp)⟩
theorem raw_fin {ws : List ByteArray} {ms : List Z.S36} {ps : List Z.S38} {B : Nat} (hB : B ≤ 1048576) (h1 : bkL (fun x => x.size + 1) ws ≤ B) (h2 : bkL (fun x : Z.S36 => ((x.f0.size + 1) + 1)) ms ≤ B) (h3 : bkL (fun x : Z.S38 => (bkL (fun x => x.size + 1) x.f0 + 1)) ps ≤ B) : FinG ws ms ps := by
  refine ⟨⟨?_, fun s hs => ?_⟩, fun p hp => ?_, fun p hp => ⟨?_, fun s hs => ?_⟩⟩
  · have := length_bkL (fun x : ByteArray => x.size + 1) (fun x => by omega) ws; omega
  · have := mem_bkL (fun x : ByteArray => x.size + 1) hs; omega
  · have := mem_bkL (fun x : Z.S36 => ((x.f0.size + 1) + 1)) hp; omega
  · have a1 := mem_bkL (fun x : Z.S38 => (bkL (fun x => x.size + 1) x.f0 + 1)) hp
    have a2 := length_bkL (fun x : ByteArray => x.size + 1) (fun x => by omega) p.f0
    omega
  · have a1 := mem_bkL (fun x : Z.S38 => (bkL (fun x => x.size + 1) x.f0 + 1)) hp
    have a2 := mem_bkL (fun x : ByteArray => x.size + 1) hs
    omega
theorem GoodsFormat (l0 : (List Int)) (l1_0 : (List ByteArray)) (l1_1 : (List Z.S36)) (l1_2 : (List Z.S38)) (a1_3 : Bool) (hb : bkL (fun _ => 1) l0 + bkL (fun x => x.size + 1) l1_0 + bkL (fun x => ((x.f0.size + 1) + 1)) l1_1 + bkL (fun x => (bkL (fun x => x.size + 1) x.f0 + 1)) l1_2 + 1 ≤ 1048576) (w0 : (l0.length * 8 ≤ 140737488351232 ∧ ∀ z0 ∈ l0, (Lit.int .i64 z0).wf = true)) (w1_0 : (l1_0.length * 16 ≤ 140737488351232 ∧ ∀ z0 ∈ l1_0, True)) (w1_1 : (l1_1.length * 24 ≤ 140737488351232 ∧ ∀ z0 ∈ l1_1, (True ∧ (Lit.int .i64 z0.f1).wf = true))) (w1_2 : (l1_2.length * 32 ≤ 140737488351232 ∧ ∀ z0 ∈ l1_2, ((z0.f0.length * 16 ≤ 140737488351232 ∧ ∀ z1 ∈ z0.f0, True) ∧ (Lit.int .i64 z0.f1).wf = true))) (w1_3 : True) : ∃ k, Z.customslaw08_GoodsFormat.f k l0 l1_0 l1_1 l1_2 a1_3 = some true := by
  have hraw : FinG l1_0 l1_1 l1_2 := raw_fin (B := 1048576) (Nat.le_refl _) (by omega) (by omega) (by omega)
  obtain ⟨ws, ms, ps, inc, hg, hok⟩ := good_ex l0 (fun x hx => i64_of (w0.2 x hx)) (by omega)
  have hz := goodE_zero hok
  have hs := hraw.take 30 12 12
  generalize hr0 : l1_0.take 30 = rws at hs
  generalize hr1 : l1_1.take 12 = rms at hs
  generalize hr2 : l1_2.take 12 = rps at hs
  refine Ev.rounds (g := fun k => Z.customslaw08_GoodsFormat.f k l0 l1_0 l1_1 l1_2 a1_3) ?_
  refine Ev.congr (fun k => by rw [Z.customslaw08_GoodsFormat.f, small_eq, hr0, hr1, hr2]) ?_
  refine Ev.bind hg ?_
  refine Ev.bind (format_ev ws ms ps inc) (Ev.bind (rformat_ev ws ms ps inc hok.fin) (ev_pos rfl (ev_some ?_)))
  refine Ev.bind (format_ev rws rms rps a1_3) (ev_some (Ev.bind (rformat_ev rws rms rps a1_3 hs) ?_))
  refine Ev.step (fun k => by rw [Z.customslaw08_GoodsFormat.j0]) ?_
  refine ev_neg (by simp) ?_
  rw [if_pos hz]
  refine Ev.bind (parse_fmt ws ms ps inc hz) (ev_pos rfl ?_)
  exact Ev.bind (sameGood_ev ws ms ps inc (gv_of hz)) (ev_pos rfl (Ev.bind awake_ev (Ev.now _)))
end Go.Proofs.YtoolggpfgadjlaaDoor.Pure
