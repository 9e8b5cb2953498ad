/- The law customslaw38.ChannelSteps: its given row, out of the printed walk and the plain law in <Name>PureChannelSteps. Conditions: none. -/
import Derived.Test.YtfljnggpnndmkaaRows
import Derived.Test.YtfljnggpnndmkaaOpn
import Derived.Test.YtfljnggpnndmkaaZcustomslaw38ChannelSteps
import Derived.Test.YtfljnggpnndmkaaPureChannelSteps
import Derived.WalkKit
import Derived.ProofKit
import Derived.OpenShut
import Derived.JoinedCond
import Derived.ChangeOld
import Derived.Below
import Derived.Carry
import Derived.SizedLaws
namespace Go.Proofs.Ytfljnggpnndmkaa.channelSteps
open Go.ChangeShapes Go.WideShapes Go.ChangeAt Go.RowKit Go.Proofs.YtfljnggpnndmkaaW.PrintWords Go.Proofs.Ytfljnggpnndmkaa.Opening
set_option linter.unusedVariables false
set_option linter.unusedSimpArgs false
theorem own : ownKnob Try.prog.godebug = none := by kernel_rfl
theorem laidOut : laidOutB Try.prog = true := by kernel_rfl
set_option maxRecDepth 100000 in
theorem contract (H : Type) (enc : TypeId × Value → H) (W : World) (base : Nat) (args : Array Value) (ds gs : List (DataW H)) (before : List MemPlace)
    (hval0 : ∀ (j : Nat) t v, Try.f9.params[j]? = some t → args[j]? = some v → Value.okWide Try.prog W .any base t v)
    (hW : DataW.Whole enc Try.prog Try.f9.params.toList Rows.channelStepsSpec.vars false W args.toList ds gs before) (hsz0 : (DataW.weightsEach Try.prog (Try.f9.params.toList ++ Rows.channelStepsSpec.plain.varTypes Try.prog) (ds ++ gs)).all (· ≤ reachBytes) = true) :
    Calls Try.prog 9 args W fun e W' => ∃ v, e = .returned v ∧ Rows.channelStepsSpec.post enc Try.prog Try.f9 false true false false W args v W' := by
  have hval : ∀ (j : Nat) t v, Try.f9.params[j]? = some t → args[j]? = some v → Value.okWide Try.prog W .any base t v := hval0
  have hsz : (DataW.weightsEach Try.prog (Try.f9.params.toList ++ Rows.channelStepsSpec.plain.varTypes Try.prog) (ds ++ gs)).all (· ≤ reachBytes) = true := hsz0
  have hW' := hW
  obtain ⟨p, q, hA0, hV, rfl, hfz, hnd⟩ := hW
  have hA : DataW.TrodAll enc Try.prog W 0 (fun _ => true) true Try.f9.params.toList args.toList ds p := hA0
  rw [Try.params9] at hA hval hsz
  obtain ⟨v0, vs0, d0, ds0, p0, q0, hargs, rfl, rfl, h0, r0⟩ := trodAll_cons hA
  obtain ⟨v1, vs1, d1, ds1, p1, q1, rfl, rfl, rfl, h1, r1⟩ := trodAll_cons r0
  obtain ⟨v2, vs2, d2, ds2, p2, q2, rfl, rfl, rfl, h2, r2⟩ := trodAll_cons r1
  obtain ⟨v3, vs3, d3, ds3, p3, q3, rfl, rfl, rfl, h3, r3⟩ := trodAll_cons r2
  obtain ⟨v4, vs4, d4, ds4, p4, q4, rfl, rfl, rfl, h4, r4⟩ := trodAll_cons r3
  obtain ⟨rfl, rfl, rfl⟩ := trodAll_nil r4
  obtain rfl : args = #[v0, v1, v2, v3, v4] := by cases args; simp_all
  obtain ⟨rfl, rfl⟩ := trodVars_none hV
  have k0 := h0
  have lt0 : ∀ x ∈ p0, x.block < W.heap.size := by obtain ⟨m, hm⟩ := k0; exact DataW.trod_lt m _ _ _ hm
  obtain ⟨cs0, rfl⟩ := okWide_agg Try.underlying44 (hval 0 44 v0 rfl rfl)
  obtain ⟨m0, hm0⟩ := h0
  obtain ⟨x0, g0, e0, f0⟩ := (Opn.struct Try.underlying44 rfl (by kernel_rfl) (OpnF.cons rfl (by kernel_rfl) (Opn.int Try.underlying3) (OpnF.cons rfl (by kernel_rfl) (Opn.slice (B := 8) Try.underlying42 (by kernel_rfl) (by kernel_rfl) (by decide) (Opn.int Try.underlying3)) (OpnF.one rfl (by kernel_rfl) (Opn.slice (B := 8) Try.underlying42 (by kernel_rfl) (by kernel_rfl) (by decide) (Opn.int Try.underlying3)))))).get enc W m0 _ d0 p0 hm0 (.inl (fun n hn => by have z := List.all_eq_true.1 hsz n (DataW.weights_mem_each (j := 0) (t := 44) rfl rfl n hn); simpa using z))
  obtain ⟨⟨a0_0, l0_1, l0_2⟩, q0⟩ : { y // y = x0 } := ⟨x0, rfl⟩
  subst q0
  obtain ⟨y0_0, z0_0, s0_0, g0_0, n0_0⟩ := g0
  obtain ⟨y0_1, z0_1, s0_1, g0_1, n0_1⟩ := n0_0
  have t0_0 := g0_0
  obtain ⟨A0_1, c0_1, t0_1, hc0_1, hr0_1⟩ := g0_1
  obtain ⟨A0_2, c0_2, t0_2, hc0_2, hr0_2⟩ := n0_1
  obtain rfl : cs0 = #[.int .i64 a0_0, .slice A0_1 l0_1.length c0_1, .slice A0_2 l0_2.length c0_2] := toList_inj_ (by
    show cs0.toList = _
    refine Eq.trans (show cs0.toList = _ from s0_0) ?_
    rw [show z0_0 = _ from s0_1]
    rw [show y0_0 = _ from t0_0]
    rw [show y0_1 = _ from t0_1]
    rw [show z0_1 = _ from t0_2]
    rfl)
  have k1 := h1
  have lt1 : ∀ x ∈ p1, x.block < W.heap.size := by obtain ⟨m, hm⟩ := k1; exact DataW.trod_lt m _ _ _ hm
  obtain ⟨b1, rfl⟩ := okWide_int_ Try.underlying3 (hval 1 3 v1 rfl rfl)
  obtain ⟨m1, hm1⟩ := h1
  obtain ⟨x1, g1, e1, f1⟩ := (Opn.int Try.underlying3).get enc W m1 _ d1 p1 hm1 (.inl (fun n hn => by have z := List.all_eq_true.1 hsz n (DataW.weights_mem_each (j := 1) (t := 3) rfl rfl n hn); simpa using z))
  obtain rfl : b1 = x1 := by have t' : [Value.int .i64 b1] = [Value.int .i64 x1] := g1; injection t' with t' _; injection t'
  have k2 := h2
  have lt2 : ∀ x ∈ p2, x.block < W.heap.size := by obtain ⟨m, hm⟩ := k2; exact DataW.trod_lt m _ _ _ hm
  obtain ⟨b2, rfl⟩ := okWide_int_ Try.underlying3 (hval 2 3 v2 rfl rfl)
  obtain ⟨m2, hm2⟩ := h2
  obtain ⟨x2, g2, e2, f2⟩ := (Opn.int Try.underlying3).get enc W m2 _ d2 p2 hm2 (.inl (fun n hn => by have z := List.all_eq_true.1 hsz n (DataW.weights_mem_each (j := 2) (t := 3) rfl rfl n hn); simpa using z))
  obtain rfl : b2 = x2 := by have t' : [Value.int .i64 b2] = [Value.int .i64 x2] := g2; injection t' with t' _; injection t'
  have k3 := h3
  have lt3 : ∀ x ∈ p3, x.block < W.heap.size := by obtain ⟨m, hm⟩ := k3; exact DataW.trod_lt m _ _ _ hm
  obtain ⟨b3, rfl⟩ := okWide_int_ Try.underlying3 (hval 3 3 v3 rfl rfl)
  obtain ⟨m3, hm3⟩ := h3
  obtain ⟨x3, g3, e3, f3⟩ := (Opn.int Try.underlying3).get enc W m3 _ d3 p3 hm3 (.inl (fun n hn => by have z := List.all_eq_true.1 hsz n (DataW.weights_mem_each (j := 3) (t := 3) rfl rfl n hn); simpa using z))
  obtain rfl : b3 = x3 := by have t' : [Value.int .i64 b3] = [Value.int .i64 x3] := g3; injection t' with t' _; injection t'
  have k4 := h4
  have lt4 : ∀ x ∈ p4, x.block < W.heap.size := by obtain ⟨m, hm⟩ := k4; exact DataW.trod_lt m _ _ _ hm
  obtain ⟨b4, rfl⟩ := okWide_bool_ Try.underlying4 (hval 4 4 v4 rfl rfl)
  obtain ⟨m4, hm4⟩ := h4
  obtain ⟨x4, g4, e4, f4⟩ := (Opn.bool Try.underlying4).get enc W m4 _ d4 p4 hm4 (.inl (fun n hn => by have z := List.all_eq_true.1 hsz n (DataW.weights_mem_each (j := 4) (t := 4) rfl rfl n hn); simpa using z))
  obtain rfl : b4 = x4 := by have t' : [Value.bool b4] = [Value.bool x4] := g4; injection t' with t' _; injection t'
  have pure := Pure.ChannelSteps a0_0 l0_1 l0_2 b1 b2 b3 b4 (f0.1) (f0.2.1) (f0.2.2) (f1) (f2) (f3) (f4)
  obtain ⟨k, pure⟩ := pure
  refine (Z.customslaw38_ChannelSteps.calls k a0_0 (fun k => k < W.heap.size) A0_1 c0_1 l0_1 (fun k => k < W.heap.size) A0_2 c0_2 l0_2 b1 b2 b3 b4 true W (Kd.V_mk hc0_1 (Kd.C_F (Kd.heap_int .i64) hr0_1)) (Kd.V_mk hc0_2 (Kd.C_F (Kd.heap_int .i64) hr0_2)) pure).mono fun e W' ⟨he, bel⟩ => ?_
  subst he
  exact ⟨_, rfl, _, _, _, [], _, [], hW', trodAll_mk1 (shut_bool Try.underlying4 _), (trodAll_cons_mk (Below.trod laidOut (by kernel_rfl) (of_decide_eq_true (by kernel_rfl)) k0 bel lt0) (trodAll_cons_mk (Below.trod laidOut (by kernel_rfl) (of_decide_eq_true (by kernel_rfl)) k1 bel lt1) (trodAll_cons_mk (Below.trod laidOut (by kernel_rfl) (of_decide_eq_true (by kernel_rfl)) k2 bel lt2) (trodAll_cons_mk (Below.trod laidOut (by kernel_rfl) (of_decide_eq_true (by kernel_rfl)) k3 bel lt3) (trodAll_cons_mk (Below.trod laidOut (by kernel_rfl) (of_decide_eq_true (by kernel_rfl)) k4 bel lt4) trodAll_mk0))))), rfl, bel.frame _, fun h => by cases h⟩
set_option maxRecDepth 100000 in
theorem lifted (os : Os) (started : os.Started) (H : Type) (enc : TypeId × Value → H) :
    ReturnsInHanded {} Try.checked os 9 .any (Rows.channelStepsSpec.pre6 enc Try.prog Try.f9 Rows.channelStepsRow.domain false) (Rows.channelStepsSpec.post enc Try.prog Try.f9 false true false false) := by
  refine returnsInHanded_of_change_sized (C := Try.checked) own started (by kernel_rfl) Try.func9
    (ChangeSpec.witness6 (enc := enc) (C := Try.checked) false ⟨#[], #[.agg #[.int .i64 0, .slice none 0 0, .slice none 0 0], .int .i64 0, .int .i64 0, .int .i64 0, .bool false], []⟩ 8 (by kernel_rfl) (by kernel_rfl) (by kernel_rfl) (by kernel_rfl)) ?_
  intro W base args ds gs before hval hW _ hsz _
  exact contract H enc W base args ds gs before hval hW hsz
theorem proved : Rows.ChannelStepsSaid :=
  OpenClaim.holds_of_wide 9 Try.f9 rfl rfl rfl rfl rfl rfl rfl ⟨rfl, rfl, rfl, rfl, rfl⟩ rfl rfl rfl rfl rfl (by kernel_rfl) Try.func9 (by kernel_rfl)
    (of_decide_eq_true (by kernel_rfl)) (by unfold Func.isWrapper; first | (rw [if_pos (by decide +kernel)]; kernel_rfl) | (rw [if_neg (by decide +kernel)]; exact ⟨rfl, rfl⟩))
    (fun os started H enc _ => lifted os started H enc)
end Go.Proofs.Ytfljnggpnndmkaa.channelSteps
namespace Go.Proofs.Ytfljnggpnndmkaa
/-- The row, under a short name, for the claim. -/
theorem channelSteps_holds : Rows.ChannelStepsSaid := channelSteps.proved
end Go.Proofs.Ytfljnggpnndmkaa
