/- Printed: a Go function in plain Lean, and that its call does what it says. Conditions: those each theorem states. -/
import Derived.Test.YtoolggpfgadjlaaDoorZ0
namespace Go.Proofs.YtoolggpfgadjlaaDoor.Z
open Go.RowKit Go.Proofs.YtoolggpfgadjlaaDoorW.PrintWords Go.Proofs.YtoolggpfgadjlaaDoorW.PrintLast Go.Proofs.YtoolggpfgadjlaaDoorW.PrintMore
attribute [local go_sem high] str_leq str_geq str_gtr   -- strings
attribute [local go_sem] max2_int min2_int max_two min_two max_three min_three max_four min_four   -- for this text's walks alone
set_option linter.unusedVariables false
set_option linter.unusedSimpArgs false

/-! ### goods_pair: function 38 -/
def goods_pair.f (a0 : ByteArray) : Option (ByteArray × Int) :=
  if a0.size ≤ 281474976710656 then
    (if Lib.lastIndexByte a0 58 < 0 then some (a0, 0)
     else if Lib.lastIndexByte a0 58 + 1 ≤ (a0.size : Int) then
       (match Lib.atoiAll (a0.extract (Lib.lastIndexByte a0 58 + 1).toNat a0.size).data.toList with
        | .ok v => some (a0.extract 0 (Lib.lastIndexByte a0 58).toNat, v)
        | _ => some (a0, 0))
     else none) else none
set_option maxRecDepth 100000 in
theorem goods_pair.calls (a0 : ByteArray) (r1 : ByteArray) (r2 : Int) (w : World) (h : goods_pair.f a0 = some (r1, r2)) (hG : GL w) :
    Calls Tryd.prog 38 #[.string a0] w fun e w' => e = .returned (.tuple #[.string r1, .int .i64 r2]) ∧ Below w.heap.size w w' := by
  unfold goods_pair.f at h
  split at h
  case isFalse => cases h
  case isTrue hs =>
  have hu := Tryd.underlying9
  have C1 := Aside0.mk (Tryd.strings_LastIndexByte a0 58 (by omega))
  generalize hi : Lib.lastIndexByte a0 58 = i at h C1
  have HI := Aside0.mk hi
  have HG := Aside0.mk hG
  have HS := Aside0.mk hs
  clear hi hG hs
  by_cases h0 : i < 0
  · rw [if_pos h0] at h
    obtain ⟨rfl, rfl⟩ := Prod.mk.inj (Option.some.inj h)
    have c0 := decide_eq_true h0
    clear h
    go_enter Tryd.func38, Tryd.ntmps38
    go_wp2_with (first | (go_at_call 53; refine (C1.out _).mono ?_; rintro e w' ⟨rfl, rfl⟩))
    go_ret2
    exact ⟨rfl, Below.refl _ _⟩
  · rw [if_neg h0] at h
    split at h
    case isFalse => cases h
    case isTrue h1 =>
    have hw : IntKind.i64.wrap (i + 1) = i + 1 := by rw [IntKind.wrap_i64]; have := HS.out; omega
    have c0 := decide_eq_false h0
    have p0 : (0 ≤ i + 1) = True := eq_true (by omega)
    have p1 : (i + 1 ≤ (a0.size : Int)) = True := eq_true h1
    have p2 : (0 ≤ i) = True := eq_true (by omega)
    have p3 : (i ≤ (a0.size : Int)) = True := eq_true (by omega)
    have HH := Aside0.mk h
    clear h
    go_enter Tryd.func38, Tryd.ntmps38
    go_wp2_with (first | (go_at_call 53; refine (C1.out _).mono ?_; rintro e w' ⟨rfl, rfl⟩))
    have HH2 := HH.out
    split at HH2
    case h_1 v hv =>
      obtain ⟨rfl, rfl⟩ := Prod.mk.inj (Option.some.inj HH2)
      have HV := Aside0.mk hv
      clear hv HH HH2
      refine (Tryd.strconv_Atoi_ok _ (by have := HS.out; rw [ByteArray.size_extract]; omega) _ HV.out _).mono ?_
      rintro e w2 ⟨rfl, hw2⟩
      have HB := Aside0.mk (show Below w'.heap.size w' w2 from by
        rcases hw2 with rfl | ⟨t, rfl⟩
        · exact Below.refl _ _
        · exact Go.Joins.below_bytesWorld _ _ _ _ (Nat.le_refl _))
      clear hw2
      go_wp2
      go_ret2
      exact ⟨rfl, HB.out⟩
    case h_2 hno =>
      obtain ⟨rfl, rfl⟩ := Prod.mk.inj (Option.some.inj HH2)
      have hz : (a0.extract (i + 1).toNat a0.size).size ≤ 281474976710656 := by have := HS.out; rw [ByteArray.size_extract]; omega
      obtain ⟨e1, g1, i1⟩ := HG.out.syn
      obtain ⟨e2, g2, i2⟩ := HG.out.ran
      clear HH HH2
      by_cases hx : Lib.atoiAll (a0.extract (i + 1).toNat a0.size).data.toList = .range
      · have HX := Aside0.mk hx
        clear hx hno
        refine (Tryd.strconv_Atoi_range _ hz HX.out e2 _ g2 i2).mono ?_
        rintro e w2 ⟨N, rfl, _, _, hB⟩
        have HB := Aside0.mk hB
        clear hB
        go_wp2
        go_ret2
        exact ⟨rfl, HB.out⟩
      · have HX := Aside0.mk hx
        have HN := Aside0.mk hno
        clear hx hno
        refine (Tryd.strconv_Atoi_bad _ hz (fun v e_ => HN.out v e_) HX.out e1 _ g1 i1).mono ?_
        rintro e w2 ⟨N, rfl, _, _, hB⟩
        have HB := Aside0.mk hB
        clear hB
        go_wp2
        go_ret2
        exact ⟨rfl, HB.out⟩

end Go.Proofs.YtoolggpfgadjlaaDoor.Z
