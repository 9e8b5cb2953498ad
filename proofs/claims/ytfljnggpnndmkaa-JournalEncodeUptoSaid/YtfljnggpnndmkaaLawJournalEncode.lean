/- The law customslaw34.JournalEncode: its given row where what it reads is of bulk at most 1048576, out of the printed walk and the plain law in <Name>PureJournalEncode. Conditions: none but the given row's own. -/
import Derived.Test.YtfljnggpnndmkaaRows
import Derived.Test.YtfljnggpnndmkaaOpn
import Derived.Test.YtfljnggpnndmkaaZcustomslaw34JournalEncode
import Derived.Test.YtfljnggpnndmkaaPureJournalEncode
import Derived.WalkKit
import Derived.ProofKit
import Derived.OpenShut
import Derived.JoinedCond
import Derived.ChangeOld
import Derived.Below
import Derived.Carry
import Derived.SizedLaws
namespace Go.Proofs.Ytfljnggpnndmkaa.journalEncode
open Go.ChangeShapes Go.WideShapes Go.ChangeAt Go.RowKit Go.Proofs.YtfljnggpnndmkaaW.PrintWords Go.Proofs.Ytfljnggpnndmkaa.Opening
set_option linter.unusedVariables false
set_option linter.unusedSimpArgs false
theorem own : ownKnob Try.prog.godebug = none := by kernel_rfl
theorem laidOut : laidOutB Try.prog = true := by kernel_rfl
set_option maxRecDepth 100000 in
theorem contract (H : Type) (enc : TypeId × Value → H) (W : World) (base : Nat) (args : Array Value) (ds gs : List (DataW H)) (before : List MemPlace)
    (hval0 : ∀ (j : Nat) t v, Try.f11.params[j]? = some t → args[j]? = some v → Value.okWide Try.prog W .any base t v)
    (hW : DataW.Whole enc Try.prog Try.f11.params.toList Rows.journalEncodeSpec.vars false W args.toList ds gs before) (hk : Rows.uptoSmall H (ds ++ gs) = true) :
    Calls Try.prog 11 args W fun e W' => ∃ v, e = .returned v ∧ Rows.journalEncodeSpec.post enc Try.prog Try.f11 false true false false W args v W' := by
  have hval : ∀ (j : Nat) t v, Try.f11.params[j]? = some t → args[j]? = some v → Value.okWide Try.prog W .any base t v := hval0
  have hW' := hW
  obtain ⟨p, q, hA0, hV, rfl, hfz, hnd⟩ := hW
  have hA : DataW.TrodAll enc Try.prog W 0 (fun _ => true) true Try.f11.params.toList args.toList ds p := hA0
  rw [Try.params11] at hA hval
  obtain ⟨v0, vs0, d0, ds0, p0, q0, hargs, rfl, rfl, h0, r0⟩ := trodAll_cons hA
  obtain ⟨v1, vs1, d1, ds1, p1, q1, rfl, rfl, rfl, h1, r1⟩ := trodAll_cons r0
  obtain ⟨rfl, rfl, rfl⟩ := trodAll_nil r1
  obtain rfl : args = #[v0, v1] := by cases args; simp_all
  obtain ⟨rfl, rfl⟩ := trodVars_none hV
  have hk0 : Rows.uptoSmall H [d0, d1] = true := by simpa using hk
  have hk' : Rows.uptoBulkAll [d0, d1] ≤ 1048576 := of_decide_eq_true hk0
  simp only [Rows.uptoBulkAll] at hk'
  have k0 := h0
  have lt0 : ∀ x ∈ p0, x.block < W.heap.size := by obtain ⟨m, hm⟩ := k0; exact DataW.trod_lt m _ _ _ hm
  obtain ⟨cs0, rfl⟩ := okWide_agg Try.underlying57 (hval 0 57 v0 rfl rfl)
  obtain ⟨m0, hm0⟩ := h0
  obtain ⟨x0, g0, e0, f0⟩ := (Opn.struct Try.underlying57 rfl (by kernel_rfl) (OpnF.cons rfl (by kernel_rfl) (Opn.int Try.underlying3) (OpnF.one rfl (by kernel_rfl) (Opn.slice (B := 1) Try.underlying22 (by kernel_rfl) (by kernel_rfl) (by decide) (Opn.int Try.underlying5))))).get enc W m0 _ d0 p0 hm0 (.inr (by omega))
  obtain ⟨⟨a0_0, l0_1⟩, q0⟩ : { y : _ × _ // y = x0 } := ⟨x0, rfl⟩
  subst q0
  obtain ⟨y0_0, z0_0, s0_0, g0_0, n0_0⟩ := g0
  have t0_0 := g0_0
  obtain ⟨A0_1, c0_1, t0_1, hc0_1, hr0_1⟩ := n0_0
  obtain rfl : cs0 = #[.int .i64 a0_0, .slice A0_1 l0_1.length c0_1] := toList_inj_ (by
    show cs0.toList = _
    refine Eq.trans (show cs0.toList = _ from s0_0) ?_
    rw [show y0_0 = _ from t0_0]
    rw [show z0_0 = _ from t0_1]
    rfl)
  have k1 := h1
  have lt1 : ∀ x ∈ p1, x.block < W.heap.size := by obtain ⟨m, hm⟩ := k1; exact DataW.trod_lt m _ _ _ hm
  obtain ⟨b1, len1, cap1, rfl⟩ := okWide_slice Try.underlying22 (hval 1 22 v1 rfl rfl)
  obtain ⟨m1, hm1⟩ := h1
  obtain ⟨x1, g1, e1, f1⟩ := (Opn.slice (B := 1) Try.underlying22 (by kernel_rfl) (by kernel_rfl) (by decide) (Opn.int Try.underlying5)).get enc W m1 _ d1 p1 hm1 (.inr (by omega))
  obtain ⟨A1, c1, t1, hc1, hr1⟩ := g1
  obtain ⟨rfl, rfl, rfl⟩ : b1 = A1 ∧ len1 = x1.length ∧ cap1 = c1 := by have t' : [Value.slice b1 len1 cap1] = [Value.slice A1 x1.length c1] := t1; injection t' with t' _; injection t' with t1 t2 t3; exact ⟨t1, t2, t3⟩
  have pure := Pure.JournalEncode a0_0 l0_1 x1 (by dsimp only at e0 e1 hk' ⊢; first | omega | (simp only [bkL] at *; omega)) (f0.1) (f0.2) (f1)
  obtain ⟨k, pure⟩ := pure
  refine (Z.customslaw34_JournalEncode.calls k a0_0 A0_1 c0_1 l0_1 b1 cap1 x1 true W hr0_1 hc0_1 hr1 hc1 pure).mono fun e W' ⟨he, bel⟩ => ?_
  subst he
  exact ⟨_, rfl, _, _, _, [], _, [], hW', trodAll_mk1 (shut_bool Try.underlying4 _), (trodAll_cons_mk (Below.trod laidOut (by kernel_rfl) (of_decide_eq_true (by kernel_rfl)) k0 bel lt0) (trodAll_cons_mk (Below.trod laidOut (by kernel_rfl) (of_decide_eq_true (by kernel_rfl)) k1 bel lt1) trodAll_mk0)), rfl, bel.frame _, fun h => by cases h⟩
set_option maxRecDepth 100000 in
theorem lifted (os : Os) (started : os.Started) (H : Type) (enc : TypeId × Value → H) (F : Stop.Interp) :
    ReturnsInHanded {} Try.checked os 11 .any ((Rows.OpenSpec.upto Rows.journalEncodeSpec).pre6 enc Try.prog Try.f11 Rows.journalEncodeUptoRow.domain false) (((Rows.OpenSpec.upto Rows.journalEncodeSpec).at F).post enc Try.prog Try.f11 false true false false) := by
  refine returnsInHanded_of_cond (C := Try.checked) (s := Rows.OpenSpec.upto Rows.journalEncodeSpec) (k := Rows.uptoSmall) rfl own started (by kernel_rfl) Try.func11
    (OpenSpec.witness (enc := enc) (C := Try.checked) (s := Rows.OpenSpec.upto Rows.journalEncodeSpec) (k := Rows.uptoSmall) rfl false ⟨#[], #[.agg #[.int .i64 0, .slice none 0 0], .slice none 0 0], []⟩ 8 (by kernel_rfl) (by kernel_rfl) (by kernel_rfl)
      (x := ([.agg [.lit (.int .i64 0), .nil], .nil], [], [])) (by kernel_rfl) rfl (by kernel_rfl)) ?_
  intro W base args ds gs before hval hW _ hk _
  exact contract H enc W base args ds gs before hval hW hk
theorem proved : Rows.JournalEncodeUptoSaid :=
  OpenClaim.holds_of_cond 11 Try.f11 rfl rfl rfl rfl rfl rfl rfl ⟨rfl, rfl, rfl, rfl, rfl⟩ rfl rfl rfl rfl rfl (by kernel_rfl) Try.func11 (by kernel_rfl)
    (of_decide_eq_true (by kernel_rfl)) (by unfold Func.isWrapper; first | (rw [if_pos (by decide +kernel)]; kernel_rfl) | (rw [if_neg (by decide +kernel)]; exact ⟨rfl, rfl⟩))
    (fun os started H enc _ F => lifted os started H enc F)
end Go.Proofs.Ytfljnggpnndmkaa.journalEncode
namespace Go.Proofs.Ytfljnggpnndmkaa
/-- The row, under a short name, for the claim. -/
theorem journalEncode_holds : Rows.JournalEncodeUptoSaid := journalEncode.proved
end Go.Proofs.Ytfljnggpnndmkaa
