/- The law customs/customslaw08.GoodsFormat: its given row where what it reads is of bulk at most 1048576, out of the printed walk and the plain law in <Name>PureGoodsFormat. Conditions: none but the given row's own. -/
import Derived.Test.YtoolggpfgadjlaaDoorRows
import Derived.Test.YtoolggpfgadjlaaDoorCards
import Derived.Test.YtoolggpfgadjlaaDoorTie
import Derived.Test.YtoolggpfgadjlaaDoorOpn
import Derived.Test.YtoolggpfgadjlaaDoorLaid
import Derived.Test.YtoolggpfgadjlaaDoorZcustomslaw08GoodsFormat
import Derived.Test.YtoolggpfgadjlaaDoorPureGoodsFormat
import Derived.WalkKit
import Derived.ProofKit
import Derived.OpenShut
import Derived.JoinedCond
import Derived.ChangeOld
import Derived.Below
import Derived.Carry
import Derived.SizedLaws
import Derived.Deep.DeepHandedRow
import Derived.LaidMore
import Derived.Lay
import Derived.SevenTiedAt
import Derived.Stop.Joined
import Derived.MakeChecks
import Derived.KernelRfl
namespace Go.Proofs.YtoolggpfgadjlaaDoor.goodsFormat
open Go.ChangeShapes Go.WideShapes Go.ChangeAt Go.RowKit Go.Proofs.YtoolggpfgadjlaaDoorW.PrintWords Go.Proofs.YtoolggpfgadjlaaDoor.Opening
set_option linter.unusedVariables false
set_option linter.unusedSimpArgs false
theorem own : ownKnob Tryd.prog.godebug = none := by kernel_rfl
theorem laidOut : laidOutB Tryd.prog = true := by kernel_rfl
set_option maxRecDepth 100000 in
theorem contract (H : Type) (enc : TypeId × Value → H) (W : World) (base : Nat) (args : Array Value) (ds gs : List (DataW H)) (before : List MemPlace)
    (hval0 : ∀ (j : Nat) t v, Tryd.f5.params[j]? = some t → args[j]? = some v → Value.okWide Tryd.prog W .any base t v)
    (hW : DataW.Whole enc Tryd.prog Tryd.f5.params.toList Rows.goodsFormatSpec.vars false W args.toList ds gs before) (hk : Rows.uptoSmall H (ds ++ gs) = true) (hL : laidMetH Tryd.prog Rows.goodsFormatUptoRow.laid W) (hS : W.ShapedOpen Tryd.prog) :
    Calls Tryd.prog 5 args W fun e W' => ∃ v, e = .returned v ∧ Rows.goodsFormatSpec.post enc Tryd.prog Tryd.f5 false true false false W args v W' := by
  have hval : ∀ (j : Nat) t v, Tryd.f5.params[j]? = some t → args[j]? = some v → Value.okWide Tryd.prog W .any base t v := hval0
  have hW' := hW
  obtain ⟨p, q, hA0, hV, rfl, hfz, hnd⟩ := hW
  have hA : DataW.TrodAll enc Tryd.prog W 0 (fun _ => true) true Tryd.f5.params.toList args.toList ds p := hA0
  rw [Tryd.params5] at hA hval
  obtain ⟨v0, vs0, d0, ds0, p0, q0, hargs, rfl, rfl, h0, r0⟩ := trodAll_cons hA
  obtain ⟨v1, vs1, d1, ds1, p1, q1, rfl, rfl, rfl, h1, r1⟩ := trodAll_cons r0
  obtain ⟨rfl, rfl, rfl⟩ := trodAll_nil r1
  obtain rfl : args = #[v0, v1] := by cases args; simp_all
  obtain ⟨rfl, rfl⟩ := trodVars_none hV
  have hk0 : Rows.uptoSmall H [d0, d1] = true := by simpa using hk
  have hk' : Rows.uptoBulkAll [d0, d1] ≤ 1048576 := of_decide_eq_true hk0
  simp only [Rows.uptoBulkAll] at hk'
  have k0 := h0
  have lt0 : ∀ x ∈ p0, x.block < W.heap.size := by obtain ⟨m, hm⟩ := k0; exact DataW.trod_lt m _ _ _ hm
  obtain ⟨b0, len0, cap0, rfl⟩ := okWide_slice Tryd.underlying27 (hval 0 27 v0 rfl rfl)
  obtain ⟨m0, hm0⟩ := h0
  obtain ⟨x0, g0, e0, f0⟩ := (Opn.slice (B := 8) Tryd.underlying27 (by kernel_rfl) (by kernel_rfl) (by decide) (Opn.int Tryd.underlying3)).get enc W m0 _ d0 p0 hm0 (.inr (by omega))
  obtain ⟨A0, c0, t0, hc0, hr0⟩ := g0
  obtain ⟨rfl, rfl, rfl⟩ : b0 = A0 ∧ len0 = x0.length ∧ cap0 = c0 := by have t' : [Value.slice b0 len0 cap0] = [Value.slice A0 x0.length c0] := t0; injection t' with t' _; injection t' with t1 t2 t3; exact ⟨t1, t2, t3⟩
  have k1 := h1
  have lt1 : ∀ x ∈ p1, x.block < W.heap.size := by obtain ⟨m, hm⟩ := k1; exact DataW.trod_lt m _ _ _ hm
  obtain ⟨cs1, rfl⟩ := okWide_agg Tryd.underlying26 (hval 1 26 v1 rfl rfl)
  obtain ⟨m1, hm1⟩ := h1
  obtain ⟨x1, g1, e1, f1⟩ := (Opn.struct Tryd.underlying26 rfl (by kernel_rfl) (OpnF.cons rfl (by kernel_rfl) (Opn.slice (B := 16) Tryd.underlying22 (by kernel_rfl) (by kernel_rfl) (by decide) (Opn.string Tryd.underlying9)) (OpnF.cons rfl (by kernel_rfl) (Opn.slice (B := 24) Tryd.underlying23 (by kernel_rfl) (by kernel_rfl) (by decide) (Opn.iso (f := fun x : Z.S36 => (x.f0, x.f1)) (Opn.struct Tryd.underlying36 rfl (by kernel_rfl) (OpnF.cons rfl (by kernel_rfl) (Opn.string Tryd.underlying9) (OpnF.one rfl (by kernel_rfl) (Opn.int Tryd.underlying3)))) (fun x => ⟨x.1, x.2⟩) (fun _ => rfl))) (OpnF.cons rfl (by kernel_rfl) (Opn.slice (B := 32) Tryd.underlying24 (by kernel_rfl) (by kernel_rfl) (by decide) (Opn.iso (f := fun x : Z.S38 => (x.f0, x.f1)) (Opn.struct Tryd.underlying38 rfl (by kernel_rfl) (OpnF.cons rfl (by kernel_rfl) (Opn.slice (B := 16) Tryd.underlying22 (by kernel_rfl) (by kernel_rfl) (by decide) (Opn.string Tryd.underlying9)) (OpnF.one rfl (by kernel_rfl) (Opn.int Tryd.underlying3)))) (fun x => ⟨x.1, x.2⟩) (fun _ => rfl))) (OpnF.one rfl (by kernel_rfl) (Opn.bool Tryd.underlying4)))))).get enc W m1 _ d1 p1 hm1 (.inr (by omega))
  obtain ⟨⟨l1_0, l1_1, l1_2, a1_3⟩, q1⟩ : { y // y = x1 } := ⟨x1, rfl⟩
  subst q1
  obtain ⟨y1_0, z1_0, s1_0, g1_0, n1_0⟩ := g1
  obtain ⟨y1_1, z1_1, s1_1, g1_1, n1_1⟩ := n1_0
  obtain ⟨y1_2, z1_2, s1_2, g1_2, n1_2⟩ := n1_1
  obtain ⟨A1_0, c1_0, t1_0, hc1_0, hr1_0⟩ := g1_0
  obtain ⟨A1_1, c1_1, t1_1, hc1_1, hr1_1⟩ := g1_1
  obtain ⟨A1_2, c1_2, t1_2, hc1_2, hr1_2⟩ := g1_2
  have t1_3 := n1_2
  obtain rfl : cs1 = #[.slice A1_0 l1_0.length c1_0, .slice A1_1 l1_1.length c1_1, .slice A1_2 l1_2.length c1_2, .bool a1_3] := toList_inj_ (by
    show cs1.toList = _
    refine Eq.trans (show cs1.toList = _ from s1_0) ?_
    rw [show z1_0 = _ from s1_1]
    rw [show z1_1 = _ from s1_2]
    rw [show y1_0 = _ from t1_0]
    rw [show y1_1 = _ from t1_1]
    rw [show y1_2 = _ from t1_2]
    rw [show z1_2 = _ from t1_3]
    rfl)
  have pure := Pure.GoodsFormat x0 l1_0 l1_1 l1_2 a1_3 (by dsimp only at e0 e1 hk' ⊢; first | omega | (simp only [bkL] at *; omega)) (f0) (f1.1) (f1.2.1) (f1.2.2.1) (f1.2.2.2)
  obtain ⟨k, pure⟩ := pure
  have GLH : Z.GL W := LaidFacts.gl hL hS (by kernel_rfl) (List.mem_of_getElem? (i := 2) (by kernel_rfl)) (List.mem_of_getElem? (i := 5) rfl) (List.mem_of_getElem? (i := 4) rfl)
  refine (Z.customslaw08_GoodsFormat.calls k b0 cap0 x0 A1_0 c1_0 l1_0 A1_1 c1_1 l1_1 A1_2 c1_2 l1_2 a1_3 true W hr0 hc0 hr1_0 hc1_0 hr1_1 hc1_1 hr1_2 hc1_2 pure GLH).mono fun e W' ⟨he, bel⟩ => ?_
  subst he
  exact ⟨_, rfl, _, _, _, [], _, [], hW', trodAll_mk1 (shut_bool Tryd.underlying4 _), (trodAll_cons_mk (Below.trod laidOut (by kernel_rfl) (of_decide_eq_true (by kernel_rfl)) k0 bel lt0) (trodAll_cons_mk (Below.trod laidOut (by kernel_rfl) (of_decide_eq_true (by kernel_rfl)) k1 bel lt1) trodAll_mk0)), rfl, bel.frame _, fun h => by cases h⟩
theorem laid_met (os : Os) : laidMet Tryd.prog Rows.goodsFormatUptoRow.laid ((World.laidAll Tryd.prog os Rows.goodsFormatUptoRow.laid).forCall (fun _ _ => 0) ⟨#[], #[.slice none 0 0, .agg #[.slice none 0 0, .slice none 0 0, .slice none 0 0, .bool false]], []⟩).memory := laidMet_laidAll _ (by kernel_rfl) (by kernel_rfl)
theorem reads (os : Os) {H : Type} (enc : TypeId × Value → H) : ∃ places, DataW.whole enc Tryd.prog ((World.laidAll Tryd.prog os Rows.goodsFormatUptoRow.laid).forCall (fun _ _ => 0) ⟨#[], #[.slice none 0 0, .agg #[.slice none 0 0, .slice none 0 0, .slice none 0 0, .bool false]], []⟩).memory Tryd.f5.params.toList Rows.goodsFormatSpec.vars false #[.slice none 0 0, .agg #[.slice none 0 0, .slice none 0 0, .slice none 0 0, .bool false]].toList 8 = some ([.nil, .agg [.nil, .nil, .nil, .lit (.bool false)]], [], places) := ⟨[], by kernel_rfl⟩
set_option maxRecDepth 100000 in
theorem lifted (os : Os) (started : os.Started) (H : Type) (enc : TypeId × Value → H) (F : Stop.Interp) :
    ReturnsInHanded {} Tryd.checked os 5 .any ((Rows.OpenSpec.upto Rows.goodsFormatSpec).preRow enc Tryd.prog Tryd.f5 Rows.goodsFormatUptoRow.domain false Rows.goodsFormatUptoRow.laid) (((Rows.OpenSpec.upto Rows.goodsFormatSpec).at F).post enc Tryd.prog Tryd.f5 false true false false) := by
  obtain ⟨places, hx⟩ := reads os enc
  refine returnsInHanded_of_row (C := Tryd.checked) (s := Rows.OpenSpec.upto Rows.goodsFormatSpec) own started (by kernel_rfl) Tryd.func5
    (LaidFacts.witness_laid (enc := enc) (C := Tryd.checked) false (World.laidAll Tryd.prog os Rows.goodsFormatUptoRow.laid) #[.slice none 0 0, .agg #[.slice none 0 0, .slice none 0 0, .slice none 0 0, .bool false]] (World.laidAll_os _ _ _) (World.shaped_of_ZipB (by kernel_rfl) (by kernel_rfl)) (by kernel_rfl)
      (OpenSpec.preRow_of_cond 8 hx (by kernel_rfl) (fun k hk => by cases hk; kernel_rfl) (by kernel_rfl) (by rw [MakeChecks.laidMetH_plain _ _ _ (by kernel_rfl)]; exact laid_met os))) ?_
  intro W base args ds gs before hval hW _ hcond hsz hL hS _
  exact contract H enc W base args ds gs before hval hW (hcond _ rfl) hL hS
theorem said : Rows.GoodsFormatUptoSaid :=
  OpenClaim.holds_of_cond 5 Tryd.f5 rfl rfl rfl rfl rfl rfl rfl ⟨rfl, rfl, rfl, rfl, rfl⟩ rfl rfl rfl rfl rfl (by kernel_rfl) Tryd.func5 (by kernel_rfl)
    (of_decide_eq_true (by kernel_rfl)) (by unfold Func.isWrapper; first | (rw [if_pos (by decide +kernel)]; kernel_rfl) | (rw [if_neg (by decide +kernel)]; exact ⟨rfl, rfl⟩))
    (fun os started H enc _ F => by rw [OpenClaim.pre_eq_preRow]; exact lifted os started H enc F)
theorem plain (f : FuncId) (fn : Func) (hf : Tryd.pinned.checked.prog.funcNamed "customs/customslaw08.GoodsFormat" = some f) (hfn : Tryd.pinned.checked.prog.funcs[f]? = some fn) :
    true = Tryd.pinned.checked.prog.looks [] ∧ ∀ (j : Nat) t, fn.params[j]? = some t → Tryd.pinned.checked.prog.wantsStandIn t = false := by
  obtain rfl : f = 5 := Option.some.inj ((show Tryd.prog.funcNamed "customs/customslaw08.GoodsFormat" = some 5 by kernel_rfl).symm.trans hf) |>.symm
  obtain rfl : fn = Tryd.f5 := (Option.some.inj (Tryd.func5.symm.trans hfn)).symm
  refine ⟨by kernel_rfl, fun j t ht => ?_⟩
  rw [Tryd.params5] at ht
  have hm := Array.mem_of_getElem? ht
  simp only [List.mem_toArray, List.mem_cons, List.not_mem_nil, or_false] at hm
  rcases hm with rfl | rfl
  · exact (show Tryd.prog.wantsStandIn 27 = false by kernel_rfl)
  · exact (show Tryd.prog.wantsStandIn 26 = false by kernel_rfl)
theorem proved : Rows.GoodsFormatUptoCardSaid :=
  Claim7.holds_tied_plain_at .later [] _ _ _ _ said (fun _ h => by cases h) (by kernel_rfl) (fun _ h => by cases h) goodsFormatUpto_row_tie rfl ⟨rfl, rfl⟩ (by kernel_rfl) rfl plain (by kernel_rfl)
end Go.Proofs.YtoolggpfgadjlaaDoor.goodsFormat
namespace Go.Proofs.YtoolggpfgadjlaaDoor
/-- The row, under a short name, for the claim. -/
theorem goodsFormat_holds : Rows.GoodsFormatUptoCardSaid := goodsFormat.proved
end Go.Proofs.YtoolggpfgadjlaaDoor
