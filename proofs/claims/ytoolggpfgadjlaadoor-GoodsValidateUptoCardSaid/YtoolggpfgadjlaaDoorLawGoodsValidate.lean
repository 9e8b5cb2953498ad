/- The law customs/customslaw08.GoodsValidate: its given row where what it reads is of bulk at most 1048576, out of the printed walk and the plain law in <Name>PureGoodsValidate. Conditions: none but the given row's own. -/
import Derived.Test.YtoolggpfgadjlaaDoorRows
import Derived.Test.YtoolggpfgadjlaaDoorCards
import Derived.Test.YtoolggpfgadjlaaDoorTie
import Derived.Test.YtoolggpfgadjlaaDoorOpn
import Derived.Test.YtoolggpfgadjlaaDoorLaid
import Derived.Test.YtoolggpfgadjlaaDoorZcustomslaw08GoodsValidate
import Derived.Test.YtoolggpfgadjlaaDoorPureGoodsValidate
import Derived.WalkKit
import Derived.ProofKit
import Derived.OpenShut
import Derived.JoinedCond
import Derived.ChangeOld
import Derived.Below
import Derived.Carry
import Derived.SizedLaws
import Derived.Deep.DeepHandedRow
import Derived.LaidMore
import Derived.Lay
import Derived.SevenTiedAt
import Derived.Stop.Joined
import Derived.MakeChecks
import Derived.KernelRfl
namespace Go.Proofs.YtoolggpfgadjlaaDoor.goodsValidate
open Go.ChangeShapes Go.WideShapes Go.ChangeAt Go.RowKit Go.Proofs.YtoolggpfgadjlaaDoorW.PrintWords Go.Proofs.YtoolggpfgadjlaaDoor.Opening
set_option linter.unusedVariables false
set_option linter.unusedSimpArgs false
theorem own : ownKnob Tryd.prog.godebug = none := by kernel_rfl
theorem laidOut : laidOutB Tryd.prog = true := by kernel_rfl
set_option maxRecDepth 100000 in
theorem contract (H : Type) (enc : TypeId × Value → H) (W : World) (base : Nat) (args : Array Value) (ds gs : List (DataW H)) (before : List MemPlace)
    (hval0 : ∀ (j : Nat) t v, Tryd.f3.params[j]? = some t → args[j]? = some v → Value.okWide Tryd.prog W .any base t v)
    (hW : DataW.Whole enc Tryd.prog Tryd.f3.params.toList Rows.goodsValidateSpec.vars false W args.toList ds gs before) (hk : Rows.uptoSmall H (ds ++ gs) = true) (hL : laidMetH Tryd.prog Rows.goodsValidateUptoRow.laid W) (hS : W.ShapedOpen Tryd.prog) :
    Calls Tryd.prog 3 args W fun e W' => ∃ v, e = .returned v ∧ Rows.goodsValidateSpec.post enc Tryd.prog Tryd.f3 false true false false W args v W' := by
  have hval : ∀ (j : Nat) t v, Tryd.f3.params[j]? = some t → args[j]? = some v → Value.okWide Tryd.prog W .any base t v := hval0
  have hW' := hW
  obtain ⟨p, q, hA0, hV, rfl, hfz, hnd⟩ := hW
  have hA : DataW.TrodAll enc Tryd.prog W 0 (fun _ => true) true Tryd.f3.params.toList args.toList ds p := hA0
  rw [Tryd.params3] at hA hval
  obtain ⟨v0, vs0, d0, ds0, p0, q0, hargs, rfl, rfl, h0, r0⟩ := trodAll_cons hA
  obtain ⟨v1, vs1, d1, ds1, p1, q1, rfl, rfl, rfl, h1, r1⟩ := trodAll_cons r0
  obtain ⟨v2, vs2, d2, ds2, p2, q2, rfl, rfl, rfl, h2, r2⟩ := trodAll_cons r1
  obtain ⟨rfl, rfl, rfl⟩ := trodAll_nil r2
  obtain rfl : args = #[v0, v1, v2] := by cases args; simp_all
  obtain ⟨rfl, rfl⟩ := trodVars_none hV
  have hk0 : Rows.uptoSmall H [d0, d1, d2] = true := by simpa using hk
  have hk' : Rows.uptoBulkAll [d0, d1, d2] ≤ 1048576 := of_decide_eq_true hk0
  simp only [Rows.uptoBulkAll] at hk'
  have k0 := h0
  have lt0 : ∀ x ∈ p0, x.block < W.heap.size := by obtain ⟨m, hm⟩ := k0; exact DataW.trod_lt m _ _ _ hm
  obtain ⟨cs0, rfl⟩ := okWide_agg Tryd.underlying26 (hval 0 26 v0 rfl rfl)
  obtain ⟨m0, hm0⟩ := h0
  obtain ⟨x0, g0, e0, f0⟩ := (Opn.struct Tryd.underlying26 rfl (by kernel_rfl) (OpnF.cons rfl (by kernel_rfl) (Opn.slice (B := 16) Tryd.underlying22 (by kernel_rfl) (by kernel_rfl) (by decide) (Opn.string Tryd.underlying9)) (OpnF.cons rfl (by kernel_rfl) (Opn.slice (B := 24) Tryd.underlying23 (by kernel_rfl) (by kernel_rfl) (by decide) (Opn.iso (f := fun x : Z.S36 => (x.f0, x.f1)) (Opn.struct Tryd.underlying36 rfl (by kernel_rfl) (OpnF.cons rfl (by kernel_rfl) (Opn.string Tryd.underlying9) (OpnF.one rfl (by kernel_rfl) (Opn.int Tryd.underlying3)))) (fun x => ⟨x.1, x.2⟩) (fun _ => rfl))) (OpnF.cons rfl (by kernel_rfl) (Opn.slice (B := 32) Tryd.underlying24 (by kernel_rfl) (by kernel_rfl) (by decide) (Opn.iso (f := fun x : Z.S38 => (x.f0, x.f1)) (Opn.struct Tryd.underlying38 rfl (by kernel_rfl) (OpnF.cons rfl (by kernel_rfl) (Opn.slice (B := 16) Tryd.underlying22 (by kernel_rfl) (by kernel_rfl) (by decide) (Opn.string Tryd.underlying9)) (OpnF.one rfl (by kernel_rfl) (Opn.int Tryd.underlying3)))) (fun x => ⟨x.1, x.2⟩) (fun _ => rfl))) (OpnF.one rfl (by kernel_rfl) (Opn.bool Tryd.underlying4)))))).get enc W m0 _ d0 p0 hm0 (.inr (by omega))
  obtain ⟨⟨l0_0, l0_1, l0_2, a0_3⟩, q0⟩ : { y // y = x0 } := ⟨x0, rfl⟩
  subst q0
  obtain ⟨y0_0, z0_0, s0_0, g0_0, n0_0⟩ := g0
  obtain ⟨y0_1, z0_1, s0_1, g0_1, n0_1⟩ := n0_0
  obtain ⟨y0_2, z0_2, s0_2, g0_2, n0_2⟩ := n0_1
  obtain ⟨A0_0, c0_0, t0_0, hc0_0, hr0_0⟩ := g0_0
  obtain ⟨A0_1, c0_1, t0_1, hc0_1, hr0_1⟩ := g0_1
  obtain ⟨A0_2, c0_2, t0_2, hc0_2, hr0_2⟩ := g0_2
  have t0_3 := n0_2
  obtain rfl : cs0 = #[.slice A0_0 l0_0.length c0_0, .slice A0_1 l0_1.length c0_1, .slice A0_2 l0_2.length c0_2, .bool a0_3] := toList_inj_ (by
    show cs0.toList = _
    refine Eq.trans (show cs0.toList = _ from s0_0) ?_
    rw [show z0_0 = _ from s0_1]
    rw [show z0_1 = _ from s0_2]
    rw [show y0_0 = _ from t0_0]
    rw [show y0_1 = _ from t0_1]
    rw [show y0_2 = _ from t0_2]
    rw [show z0_2 = _ from t0_3]
    rfl)
  have k1 := h1
  have lt1 : ∀ x ∈ p1, x.block < W.heap.size := by obtain ⟨m, hm⟩ := k1; exact DataW.trod_lt m _ _ _ hm
  obtain ⟨b1, len1, cap1, rfl⟩ := okWide_slice Tryd.underlying27 (hval 1 27 v1 rfl rfl)
  obtain ⟨m1, hm1⟩ := h1
  obtain ⟨x1, g1, e1, f1⟩ := (Opn.slice (B := 8) Tryd.underlying27 (by kernel_rfl) (by kernel_rfl) (by decide) (Opn.int Tryd.underlying3)).get enc W m1 _ d1 p1 hm1 (.inr (by omega))
  obtain ⟨A1, c1, t1, hc1, hr1⟩ := g1
  obtain ⟨rfl, rfl, rfl⟩ : b1 = A1 ∧ len1 = x1.length ∧ cap1 = c1 := by have t' : [Value.slice b1 len1 cap1] = [Value.slice A1 x1.length c1] := t1; injection t' with t' _; injection t' with t1 t2 t3; exact ⟨t1, t2, t3⟩
  have k2 := h2
  have lt2 : ∀ x ∈ p2, x.block < W.heap.size := by obtain ⟨m, hm⟩ := k2; exact DataW.trod_lt m _ _ _ hm
  obtain ⟨b2, rfl⟩ := okWide_int_ Tryd.underlying3 (hval 2 3 v2 rfl rfl)
  obtain ⟨m2, hm2⟩ := h2
  obtain ⟨x2, g2, e2, f2⟩ := (Opn.int Tryd.underlying3).get enc W m2 _ d2 p2 hm2 (.inr (by omega))
  obtain rfl : b2 = x2 := by have t' : [Value.int .i64 b2] = [Value.int .i64 x2] := g2; injection t' with t' _; injection t'
  have pure := Pure.GoodsValidate l0_0 l0_1 l0_2 a0_3 x1 b2 (by dsimp only at e0 e1 e2 hk' ⊢; first | omega | (simp only [bkL] at *; omega)) (f0.1) (f0.2.1) (f0.2.2.1) (f0.2.2.2) (f1) (f2)
  obtain ⟨k, pure⟩ := pure
  have GLH : Z.GL W := LaidFacts.gl hL hS (by kernel_rfl) (List.mem_of_getElem? (i := 2) (by kernel_rfl)) (List.mem_of_getElem? (i := 5) rfl) (List.mem_of_getElem? (i := 4) rfl)
  refine (Z.customslaw08_GoodsValidate.calls k A0_0 c0_0 l0_0 A0_1 c0_1 l0_1 A0_2 c0_2 l0_2 a0_3 b1 cap1 x1 b2 true W hr0_0 hc0_0 hr0_1 hc0_1 hr0_2 hc0_2 hr1 hc1 pure GLH).mono fun e W' ⟨he, bel⟩ => ?_
  subst he
  exact ⟨_, rfl, _, _, _, [], _, [], hW', trodAll_mk1 (shut_bool Tryd.underlying4 _), (trodAll_cons_mk (Below.trod laidOut (by kernel_rfl) (of_decide_eq_true (by kernel_rfl)) k0 bel lt0) (trodAll_cons_mk (Below.trod laidOut (by kernel_rfl) (of_decide_eq_true (by kernel_rfl)) k1 bel lt1) (trodAll_cons_mk (Below.trod laidOut (by kernel_rfl) (of_decide_eq_true (by kernel_rfl)) k2 bel lt2) trodAll_mk0))), rfl, bel.frame _, fun h => by cases h⟩
theorem laid_met (os : Os) : laidMet Tryd.prog Rows.goodsValidateUptoRow.laid ((World.laidAll Tryd.prog os Rows.goodsValidateUptoRow.laid).forCall (fun _ _ => 0) ⟨#[], #[.agg #[.slice none 0 0, .slice none 0 0, .slice none 0 0, .bool false], .slice none 0 0, .int .i64 0], []⟩).memory := laidMet_laidAll _ (by kernel_rfl) (by kernel_rfl)
theorem reads (os : Os) {H : Type} (enc : TypeId × Value → H) : ∃ places, DataW.whole enc Tryd.prog ((World.laidAll Tryd.prog os Rows.goodsValidateUptoRow.laid).forCall (fun _ _ => 0) ⟨#[], #[.agg #[.slice none 0 0, .slice none 0 0, .slice none 0 0, .bool false], .slice none 0 0, .int .i64 0], []⟩).memory Tryd.f3.params.toList Rows.goodsValidateSpec.vars false #[.agg #[.slice none 0 0, .slice none 0 0, .slice none 0 0, .bool false], .slice none 0 0, .int .i64 0].toList 8 = some ([.agg [.nil, .nil, .nil, .lit (.bool false)], .nil, .lit (.int .i64 0)], [], places) := ⟨[], by kernel_rfl⟩
set_option maxRecDepth 100000 in
theorem lifted (os : Os) (started : os.Started) (H : Type) (enc : TypeId × Value → H) (F : Stop.Interp) :
    ReturnsInHanded {} Tryd.checked os 3 .any ((Rows.OpenSpec.upto Rows.goodsValidateSpec).preRow enc Tryd.prog Tryd.f3 Rows.goodsValidateUptoRow.domain false Rows.goodsValidateUptoRow.laid) (((Rows.OpenSpec.upto Rows.goodsValidateSpec).at F).post enc Tryd.prog Tryd.f3 false true false false) := by
  obtain ⟨places, hx⟩ := reads os enc
  refine returnsInHanded_of_row (C := Tryd.checked) (s := Rows.OpenSpec.upto Rows.goodsValidateSpec) own started (by kernel_rfl) Tryd.func3
    (LaidFacts.witness_laid (enc := enc) (C := Tryd.checked) false (World.laidAll Tryd.prog os Rows.goodsValidateUptoRow.laid) #[.agg #[.slice none 0 0, .slice none 0 0, .slice none 0 0, .bool false], .slice none 0 0, .int .i64 0] (World.laidAll_os _ _ _) (World.shaped_of_ZipB (by kernel_rfl) (by kernel_rfl)) (by kernel_rfl)
      (OpenSpec.preRow_of_cond 8 hx (by kernel_rfl) (fun k hk => by cases hk; kernel_rfl) (by kernel_rfl) (by rw [MakeChecks.laidMetH_plain _ _ _ (by kernel_rfl)]; exact laid_met os))) ?_
  intro W base args ds gs before hval hW _ hcond hsz hL hS _
  exact contract H enc W base args ds gs before hval hW (hcond _ rfl) hL hS
theorem said : Rows.GoodsValidateUptoSaid :=
  OpenClaim.holds_of_cond 3 Tryd.f3 rfl rfl rfl rfl rfl rfl rfl ⟨rfl, rfl, rfl, rfl, rfl⟩ rfl rfl rfl rfl rfl (by kernel_rfl) Tryd.func3 (by kernel_rfl)
    (of_decide_eq_true (by kernel_rfl)) (by unfold Func.isWrapper; first | (rw [if_pos (by decide +kernel)]; kernel_rfl) | (rw [if_neg (by decide +kernel)]; exact ⟨rfl, rfl⟩))
    (fun os started H enc _ F => by rw [OpenClaim.pre_eq_preRow]; exact lifted os started H enc F)
theorem plain (f : FuncId) (fn : Func) (hf : Tryd.pinned.checked.prog.funcNamed "customs/customslaw08.GoodsValidate" = some f) (hfn : Tryd.pinned.checked.prog.funcs[f]? = some fn) :
    true = Tryd.pinned.checked.prog.looks [] ∧ ∀ (j : Nat) t, fn.params[j]? = some t → Tryd.pinned.checked.prog.wantsStandIn t = false := by
  obtain rfl : f = 3 := Option.some.inj ((show Tryd.prog.funcNamed "customs/customslaw08.GoodsValidate" = some 3 by kernel_rfl).symm.trans hf) |>.symm
  obtain rfl : fn = Tryd.f3 := (Option.some.inj (Tryd.func3.symm.trans hfn)).symm
  refine ⟨by kernel_rfl, fun j t ht => ?_⟩
  rw [Tryd.params3] at ht
  have hm := Array.mem_of_getElem? ht
  simp only [List.mem_toArray, List.mem_cons, List.not_mem_nil, or_false] at hm
  rcases hm with rfl | rfl | rfl
  · exact (show Tryd.prog.wantsStandIn 26 = false by kernel_rfl)
  · exact (show Tryd.prog.wantsStandIn 27 = false by kernel_rfl)
  · exact (show Tryd.prog.wantsStandIn 3 = false by kernel_rfl)
theorem proved : Rows.GoodsValidateUptoCardSaid :=
  Claim7.holds_tied_plain_at .later [] _ _ _ _ said (fun _ h => by cases h) (by kernel_rfl) (fun _ h => by cases h) goodsValidateUpto_row_tie rfl ⟨rfl, rfl⟩ (by kernel_rfl) rfl plain (by kernel_rfl)
end Go.Proofs.YtoolggpfgadjlaaDoor.goodsValidate
namespace Go.Proofs.YtoolggpfgadjlaaDoor
/-- The row, under a short name, for the claim. -/
theorem goodsValidate_holds : Rows.GoodsValidateUptoCardSaid := goodsValidate.proved
end Go.Proofs.YtoolggpfgadjlaaDoor
