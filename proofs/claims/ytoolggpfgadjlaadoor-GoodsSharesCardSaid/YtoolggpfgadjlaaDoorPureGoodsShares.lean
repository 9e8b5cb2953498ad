/- The plain law of customs/customslaw08.GoodsShares. Conditions: those each theorem states. -/
import Derived.Test.YtoolggpfgadjlaaDoorZcustomslaw08GoodsShares
import Derived.Test.YtoolggpfgadjlaaDoorOpn
import Derived.Test.YtoolggpfgadjlaaDoorMade
import Derived.Test.YtoolggpfgadjlaaDoorAwake
namespace Go.Proofs.YtoolggpfgadjlaaDoor.Pure
open Go.RowKit Go.Proofs.YtoolggpfgadjlaaDoorW.PrintWords Go.Proofs.YtoolggpfgadjlaaDoorW.PrintLast Go.Proofs.YtoolggpfgadjlaaDoorW.PrintMore Go.Proofs.YtoolggpfgadjlaaDoor.Opening
set_option linter.unusedVariables false
theorem both2_ev (ws : List ByteArray) (ms : List Z.S36) (ps : List Z.S38) (b : Bool) (hf : FinG ws ms ps) :
    Ev (fun k => (Z.goods_Validate.f k ws ms ps b).bind fun t => (Z.customsref08_Good.f k ws ms ps b).bind fun u => if t = u then ((Z.customslaw08_awake.f k).bind fun v => some v) else none) true :=
  Ev.bind (validate_ev ws ms ps b) (Ev.bind (ref_ev ws ms ps b hf) (ev_pos rfl (Ev.bind awake_ev (Ev.now _))))
theorem rd36_mem (ms : List Z.S36) (t : Int) (h0 : 0 ≤ t) (h1 : t < ms.length) : Z.rd_T36 ms t ∈ ms := by
  unfold Z.rd_T36
  rw [List.getD_eq_getElem?_getD, List.getElem?_eq_getElem (by omega)]
  exact List.getElem_mem _
theorem rd38_mem (ps : List Z.S38) (t : Int) (h0 : 0 ≤ t) (h1 : t < ps.length) : Z.rd_T38 ps t ∈ ps := by
  unfold Z.rd_T38
  rw [List.getD_eq_getElem?_getD, List.getElem?_eq_getElem (by omega)]
  exact List.getElem_mem _
theorem j0_ev (a1 a2 : Int) (h1 : I64 a1) (h2 : I64 a2) (ws : List ByteArray) (ms ms' : List Z.S36) (ps : List Z.S38) (hp : ps.length ≤ 3) (inc : Bool) (hf : FinG ws ms ps) :
    Ev (fun k => Z.customslaw08_GoodsShares.j0 k a1 a2 ms ps ws ms' ps inc) true := by
  have h8 : I64 (a1 / 8) := by unfold I64 at *; omega
  have h28 : I64 (a2 / 8) := by unfold I64 at *; omega
  refine Ev.step (fun k => by rw [Z.customslaw08_GoodsShares.j0]) ?_
  by_cases hz : (ps.length : Int) > 0
  · refine ev_pos hz ?_
    obtain ⟨t, e1, t0, t1⟩ := within_ex (a1 / 8) (ps.length : Int) h8 (by omega) (by omega)
    obtain ⟨u, e2, u0, u1⟩ := within_ex (a2 / 8) 5 h28 (by decide) (by decide)
    rw [e1]
    refine ev_some (ev_pos t0 (ev_pos t1 ?_))
    rw [e2]
    refine ev_some (ev_some (both2_ev _ _ _ _ ⟨hf.hw, hf.hm, fun p hp2 => ?_⟩))
    rcases List.mem_or_eq_of_mem_set hp2 with h | rfl
    · exact hf.hp p h
    · have := hf.hp _ (rd38_mem ps t t0 t1)
      exact this
  · exact ev_neg hz (both2_ev _ _ _ _ hf)
theorem GoodsShares (l0 : (List Int)) (a1 : Int) (a2 : Int) (w0 : (l0.length * 8 ≤ 140737488351232 ∧ ∀ z0 ∈ l0, (Lit.int .i64 z0).wf = true)) (w1 : (Lit.int .i64 a1).wf = true) (w2 : (Lit.int .i64 a2).wf = true) : ∃ k, Z.customslaw08_GoodsShares.f k l0 a1 a2 = some true := by
  obtain ⟨ws, ms, ps, inc, hg, hok⟩ := good_ex l0 (fun x hx => i64_of (w0.2 x hx)) (by omega)
  have hf := hok.fin
  have hm3 := (mats_zero ms hok.hm).1
  have hp3 := (parts_zero ps hok.hp).1
  refine Ev.rounds (g := fun k => Z.customslaw08_GoodsShares.f k l0 a1 a2) ?_
  refine Ev.congr (fun k => by rw [Z.customslaw08_GoodsShares.f]) ?_
  refine Ev.bind hg (ev_some ?_)
  dsimp only
  refine ev_pos (by simp only [List.length_nil]; omega) (ev_some (ev_some (ev_pos (by simp only [List.length_nil]; omega) (ev_some ?_))))
  simp only [List.nil_append]
  by_cases hz : (ms.length : Int) > 0
  · refine ev_pos hz ?_
    obtain ⟨t, e1, t0, t1⟩ := within_ex a1 (ms.length : Int) (i64_of w1) (by omega) (by omega)
    obtain ⟨u, e2, u0, u1⟩ := within_ex a2 5 (i64_of w2) (by decide) (by decide)
    rw [e1]
    refine ev_some (ev_pos t0 (ev_pos t1 ?_))
    rw [e2]
    refine ev_some (j0_ev a1 a2 (i64_of w1) (i64_of w2) ws _ ms ps hp3 inc ⟨hf.hw, fun p hp2 => ?_, hf.hp⟩)
    rcases List.mem_or_eq_of_mem_set hp2 with h | rfl
    · exact hf.hm p h
    · have := hf.hm _ (rd36_mem ms t t0 t1)
      exact this
  · exact ev_neg hz (j0_ev a1 a2 (i64_of w1) (i64_of w2) ws ms ms ps hp3 inc hf)
end Go.Proofs.YtoolggpfgadjlaaDoor.Pure
