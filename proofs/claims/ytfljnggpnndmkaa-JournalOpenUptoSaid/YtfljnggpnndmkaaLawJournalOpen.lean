/- The law customslaw34.JournalOpen: its given row where what it reads is of bulk at most 1048576, out of the printed walk and the plain law in <Name>PureJournalOpen. Conditions: none but the given row's own. -/
import Derived.Test.YtfljnggpnndmkaaRows
import Derived.Test.YtfljnggpnndmkaaOpn
import Derived.Test.YtfljnggpnndmkaaZcustomslaw34JournalOpen
import Derived.Test.YtfljnggpnndmkaaPureJournalOpen
import Derived.WalkKit
import Derived.ProofKit
import Derived.OpenShut
import Derived.JoinedCond
import Derived.ChangeOld
import Derived.Below
import Derived.Carry
import Derived.SizedLaws
namespace Go.Proofs.Ytfljnggpnndmkaa.journalOpen
open Go.ChangeShapes Go.WideShapes Go.ChangeAt Go.RowKit Go.Proofs.YtfljnggpnndmkaaW.PrintWords Go.Proofs.Ytfljnggpnndmkaa.Opening
set_option linter.unusedVariables false
set_option linter.unusedSimpArgs false
theorem own : ownKnob Try.prog.godebug = none := by kernel_rfl
theorem laidOut : laidOutB Try.prog = true := by kernel_rfl
set_option maxRecDepth 100000 in
theorem contract (H : Type) (enc : TypeId × Value → H) (W : World) (base : Nat) (args : Array Value) (ds gs : List (DataW H)) (before : List MemPlace)
    (hval0 : ∀ (j : Nat) t v, Try.f13.params[j]? = some t → args[j]? = some v → Value.okWide Try.prog W .any base t v)
    (hW : DataW.Whole enc Try.prog Try.f13.params.toList Rows.journalOpenSpec.vars false W args.toList ds gs before) (hk : Rows.uptoSmall H (ds ++ gs) = true) :
    Calls Try.prog 13 args W fun e W' => ∃ v, e = .returned v ∧ Rows.journalOpenSpec.post enc Try.prog Try.f13 false true false false W args v W' := by
  have hval : ∀ (j : Nat) t v, Try.f13.params[j]? = some t → args[j]? = some v → Value.okWide Try.prog W .any base t v := hval0
  have hW' := hW
  obtain ⟨p, q, hA0, hV, rfl, hfz, hnd⟩ := hW
  have hA : DataW.TrodAll enc Try.prog W 0 (fun _ => true) true Try.f13.params.toList args.toList ds p := hA0
  rw [Try.params13] at hA hval
  obtain ⟨v0, vs0, d0, ds0, p0, q0, hargs, rfl, rfl, h0, r0⟩ := trodAll_cons hA
  obtain ⟨v1, vs1, d1, ds1, p1, q1, rfl, rfl, rfl, h1, r1⟩ := trodAll_cons r0
  obtain ⟨v2, vs2, d2, ds2, p2, q2, rfl, rfl, rfl, h2, r2⟩ := trodAll_cons r1
  obtain ⟨v3, vs3, d3, ds3, p3, q3, rfl, rfl, rfl, h3, r3⟩ := trodAll_cons r2
  obtain ⟨v4, vs4, d4, ds4, p4, q4, rfl, rfl, rfl, h4, r4⟩ := trodAll_cons r3
  obtain ⟨rfl, rfl, rfl⟩ := trodAll_nil r4
  obtain rfl : args = #[v0, v1, v2, v3, v4] := by cases args; simp_all
  obtain ⟨rfl, rfl⟩ := trodVars_none hV
  have hk0 : Rows.uptoSmall H [d0, d1, d2, d3, d4] = true := by simpa using hk
  have hk' : Rows.uptoBulkAll [d0, d1, d2, d3, d4] ≤ 1048576 := of_decide_eq_true hk0
  simp only [Rows.uptoBulkAll] at hk'
  have k0 := h0
  have lt0 : ∀ x ∈ p0, x.block < W.heap.size := by obtain ⟨m, hm⟩ := k0; exact DataW.trod_lt m _ _ _ hm
  obtain ⟨b0, len0, cap0, rfl⟩ := okWide_slice Try.underlying34 (hval 0 34 v0 rfl rfl)
  obtain ⟨m0, hm0⟩ := h0
  obtain ⟨x0, g0, e0, f0⟩ := (Opn.slice (B := 24) Try.underlying34 (by kernel_rfl) (by kernel_rfl) (by decide) (Opn.slice (B := 1) Try.underlying22 (by kernel_rfl) (by kernel_rfl) (by decide) (Opn.int Try.underlying5))).get enc W m0 _ d0 p0 hm0 (.inr (by omega))
  obtain ⟨A0, c0, t0, hc0, hr0⟩ := g0
  obtain ⟨rfl, rfl, rfl⟩ : b0 = A0 ∧ len0 = x0.length ∧ cap0 = c0 := by have t' : [Value.slice b0 len0 cap0] = [Value.slice A0 x0.length c0] := t0; injection t' with t' _; injection t' with t1 t2 t3; exact ⟨t1, t2, t3⟩
  have k1 := h1
  have lt1 : ∀ x ∈ p1, x.block < W.heap.size := by obtain ⟨m, hm⟩ := k1; exact DataW.trod_lt m _ _ _ hm
  obtain ⟨b1, len1, cap1, rfl⟩ := okWide_slice Try.underlying35 (hval 1 35 v1 rfl rfl)
  obtain ⟨m1, hm1⟩ := h1
  obtain ⟨x1, g1, e1, f1⟩ := (Opn.slice (B := 1) Try.underlying35 (by kernel_rfl) (by kernel_rfl) (by decide) (Opn.bool Try.underlying4)).get enc W m1 _ d1 p1 hm1 (.inr (by omega))
  obtain ⟨A1, c1, t1, hc1, hr1⟩ := g1
  obtain ⟨rfl, rfl, rfl⟩ : b1 = A1 ∧ len1 = x1.length ∧ cap1 = c1 := by have t' : [Value.slice b1 len1 cap1] = [Value.slice A1 x1.length c1] := t1; injection t' with t' _; injection t' with t1 t2 t3; exact ⟨t1, t2, t3⟩
  have k2 := h2
  have lt2 : ∀ x ∈ p2, x.block < W.heap.size := by obtain ⟨m, hm⟩ := k2; exact DataW.trod_lt m _ _ _ hm
  obtain ⟨cs2, rfl⟩ := okWide_agg Try.underlying24 (hval 2 24 v2 rfl rfl)
  obtain ⟨m2, hm2⟩ := h2
  obtain ⟨x2, g2, e2, f2⟩ := (Opn.struct Try.underlying24 rfl (by kernel_rfl) (OpnF.cons rfl (by kernel_rfl) (Opn.slice (B := 1) Try.underlying22 (by kernel_rfl) (by kernel_rfl) (by decide) (Opn.int Try.underlying5)) (OpnF.one rfl (by kernel_rfl) (Opn.slice (B := 1) Try.underlying22 (by kernel_rfl) (by kernel_rfl) (by decide) (Opn.int Try.underlying5))))).get enc W m2 _ d2 p2 hm2 (.inr (by omega))
  obtain ⟨⟨l2_0, l2_1⟩, q2⟩ : { y : _ × _ // y = x2 } := ⟨x2, rfl⟩
  subst q2
  obtain ⟨y2_0, z2_0, s2_0, g2_0, n2_0⟩ := g2
  obtain ⟨A2_0, c2_0, t2_0, hc2_0, hr2_0⟩ := g2_0
  obtain ⟨A2_1, c2_1, t2_1, hc2_1, hr2_1⟩ := n2_0
  obtain rfl : cs2 = #[.slice A2_0 l2_0.length c2_0, .slice A2_1 l2_1.length c2_1] := toList_inj_ (by
    show cs2.toList = _
    refine Eq.trans (show cs2.toList = _ from s2_0) ?_
    rw [show y2_0 = _ from t2_0]
    rw [show z2_0 = _ from t2_1]
    rfl)
  have k3 := h3
  have lt3 : ∀ x ∈ p3, x.block < W.heap.size := by obtain ⟨m, hm⟩ := k3; exact DataW.trod_lt m _ _ _ hm
  obtain ⟨cs3, rfl⟩ := okWide_agg Try.underlying57 (hval 3 57 v3 rfl rfl)
  obtain ⟨m3, hm3⟩ := h3
  obtain ⟨x3, g3, e3, f3⟩ := (Opn.struct Try.underlying57 rfl (by kernel_rfl) (OpnF.cons rfl (by kernel_rfl) (Opn.int Try.underlying3) (OpnF.one rfl (by kernel_rfl) (Opn.slice (B := 1) Try.underlying22 (by kernel_rfl) (by kernel_rfl) (by decide) (Opn.int Try.underlying5))))).get enc W m3 _ d3 p3 hm3 (.inr (by omega))
  obtain ⟨⟨a3_0, l3_1⟩, q3⟩ : { y : _ × _ // y = x3 } := ⟨x3, rfl⟩
  subst q3
  obtain ⟨y3_0, z3_0, s3_0, g3_0, n3_0⟩ := g3
  have t3_0 := g3_0
  obtain ⟨A3_1, c3_1, t3_1, hc3_1, hr3_1⟩ := n3_0
  obtain rfl : cs3 = #[.int .i64 a3_0, .slice A3_1 l3_1.length c3_1] := toList_inj_ (by
    show cs3.toList = _
    refine Eq.trans (show cs3.toList = _ from s3_0) ?_
    rw [show y3_0 = _ from t3_0]
    rw [show z3_0 = _ from t3_1]
    rfl)
  have k4 := h4
  have lt4 : ∀ x ∈ p4, x.block < W.heap.size := by obtain ⟨m, hm⟩ := k4; exact DataW.trod_lt m _ _ _ hm
  obtain ⟨b4, rfl⟩ := okWide_bool_ Try.underlying4 (hval 4 4 v4 rfl rfl)
  obtain ⟨m4, hm4⟩ := h4
  obtain ⟨x4, g4, e4, f4⟩ := (Opn.bool Try.underlying4).get enc W m4 _ d4 p4 hm4 (.inr (by omega))
  obtain rfl : b4 = x4 := by have t' : [Value.bool b4] = [Value.bool x4] := g4; injection t' with t' _; injection t'
  have pure := Pure.JournalOpen x0 x1 l2_0 l2_1 a3_0 l3_1 b4 (by dsimp only at e0 e1 e2 e3 e4 hk' ⊢; first | omega | (simp only [bkL] at *; omega)) (f0) (f1) (f2.1) (f2.2) (f3.1) (f3.2) (f4)
  obtain ⟨k, pure⟩ := pure
  refine (Z.customslaw34_JournalOpen.calls k (fun k => k < W.heap.size) b0 cap0 x0 b1 cap1 x1 (fun k => k < W.heap.size) A2_0 c2_0 l2_0 (fun k => k < W.heap.size) A2_1 c2_1 l2_1 a3_0 (fun k => k < W.heap.size) A3_1 c3_1 l3_1 b4 true W (Kd.V_mk hc0 (Kd.C_F (Kd.heap_slice 5 (Kd.heap_int .u8)) hr0)) hr1 hc1 (Kd.V_mk hc2_0 (Kd.C_F (Kd.heap_int .u8) hr2_0)) (Kd.V_mk hc2_1 (Kd.C_F (Kd.heap_int .u8) hr2_1)) (Kd.V_mk hc3_1 (Kd.C_F (Kd.heap_int .u8) hr3_1)) pure).mono fun e W' ⟨he, bel⟩ => ?_
  subst he
  exact ⟨_, rfl, _, _, _, [], _, [], hW', trodAll_mk1 (shut_bool Try.underlying4 _), (trodAll_cons_mk (Below.trod laidOut (by kernel_rfl) (of_decide_eq_true (by kernel_rfl)) k0 bel lt0) (trodAll_cons_mk (Below.trod laidOut (by kernel_rfl) (of_decide_eq_true (by kernel_rfl)) k1 bel lt1) (trodAll_cons_mk (Below.trod laidOut (by kernel_rfl) (of_decide_eq_true (by kernel_rfl)) k2 bel lt2) (trodAll_cons_mk (Below.trod laidOut (by kernel_rfl) (of_decide_eq_true (by kernel_rfl)) k3 bel lt3) (trodAll_cons_mk (Below.trod laidOut (by kernel_rfl) (of_decide_eq_true (by kernel_rfl)) k4 bel lt4) trodAll_mk0))))), rfl, bel.frame _, fun h => by cases h⟩
set_option maxRecDepth 100000 in
theorem lifted (os : Os) (started : os.Started) (H : Type) (enc : TypeId × Value → H) (F : Stop.Interp) :
    ReturnsInHanded {} Try.checked os 13 .any ((Rows.OpenSpec.upto Rows.journalOpenSpec).pre6 enc Try.prog Try.f13 Rows.journalOpenUptoRow.domain false) (((Rows.OpenSpec.upto Rows.journalOpenSpec).at F).post enc Try.prog Try.f13 false true false false) := by
  refine returnsInHanded_of_cond (C := Try.checked) (s := Rows.OpenSpec.upto Rows.journalOpenSpec) (k := Rows.uptoSmall) rfl own started (by kernel_rfl) Try.func13
    (OpenSpec.witness (enc := enc) (C := Try.checked) (s := Rows.OpenSpec.upto Rows.journalOpenSpec) (k := Rows.uptoSmall) rfl false ⟨#[], #[.slice none 0 0, .slice none 0 0, .agg #[.slice none 0 0, .slice none 0 0], .agg #[.int .i64 0, .slice none 0 0], .bool false], []⟩ 8 (by kernel_rfl) (by kernel_rfl) (by kernel_rfl)
      (x := ([.nil, .nil, .agg [.nil, .nil], .agg [.lit (.int .i64 0), .nil], .lit (.bool false)], [], [])) (by kernel_rfl) rfl (by kernel_rfl)) ?_
  intro W base args ds gs before hval hW _ hk _
  exact contract H enc W base args ds gs before hval hW hk
theorem proved : Rows.JournalOpenUptoSaid :=
  OpenClaim.holds_of_cond 13 Try.f13 rfl rfl rfl rfl rfl rfl rfl ⟨rfl, rfl, rfl, rfl, rfl⟩ rfl rfl rfl rfl rfl (by kernel_rfl) Try.func13 (by kernel_rfl)
    (of_decide_eq_true (by kernel_rfl)) (by unfold Func.isWrapper; first | (rw [if_pos (by decide +kernel)]; kernel_rfl) | (rw [if_neg (by decide +kernel)]; exact ⟨rfl, rfl⟩))
    (fun os started H enc _ F => lifted os started H enc F)
end Go.Proofs.Ytfljnggpnndmkaa.journalOpen
namespace Go.Proofs.Ytfljnggpnndmkaa
/-- The row, under a short name, for the claim. -/
theorem journalOpen_holds : Rows.JournalOpenUptoSaid := journalOpen.proved
end Go.Proofs.Ytfljnggpnndmkaa
