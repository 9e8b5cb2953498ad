/- Printed: a Go function in plain Lean, and that its call does what it says. Conditions: those each theorem states. -/
import Derived.Test.YtoolggpfgadjlaaDoorZ0
namespace Go.Proofs.YtoolggpfgadjlaaDoor.Z
open Go.RowKit Go.Proofs.YtoolggpfgadjlaaDoorW.PrintWords Go.Proofs.YtoolggpfgadjlaaDoorW.PrintLast Go.Proofs.YtoolggpfgadjlaaDoorW.PrintMore
attribute [local go_sem high] str_leq str_geq str_gtr   -- strings
attribute [local go_sem] max2_int min2_int max_two min_two max_three min_three max_four min_four   -- for this text's walks alone
set_option linter.unusedVariables false
set_option linter.unusedSimpArgs false

/-! ### slices_Clone_string_string: function 42 -/
theorem slices_Clone_string_string.eql_nil {P : Program} (w : World) (t e : TypeId) (a : Option Addr) (n c n' c' : Nat) (h : P.underlying t = some (.slice e)) :
  (binOp .eql t (.slice a n c) (.slice none n' c')).run P w = .ok (.bool a.isNone) w := by
 simp only [binOp]
 simp [Op.equal, Op.maxDepth, Lib.run_equalIn_slice_nil w 9999 t e a n c n' c' h]

def slices_Clone_string_string.f (l0 : List ByteArray) : Option (List ByteArray) := if l0.length < 8796093022208 then some l0 else none
set_option maxHeartbeats 8000000 in
theorem slices_Clone_string_string.calls (A0 : Option Addr) (c0 : Nat) (l0 : List ByteArray) (r : List ByteArray) (w : World) (hr0 : Kd.C Kd.string w A0 l0.length l0) (hc0 : l0.length ≤ c0) (h : slices_Clone_string_string.f l0 = some r) :
  Calls Tryd.prog 42 #[.slice A0 l0.length c0] w fun e w' => ∃ v0_ : Value, e = .returned (v0_) ∧ Kd.R Kd.string 9 w' w.heap.size (fun _ => True) v0_ r ∧ Below w.heap.size w w' := by
 unfold slices_Clone_string_string.f at h
 split at h
 case isFalse => cases h
 case isTrue hl =>
 obtain rfl := Option.some.inj h
 clear h
 rcases A0 with _ | ad
 ·
  have hnil : ∀ W : World, (binOp .eql 22 (.slice none l0.length c0) (.slice none 0 0)).run Tryd.prog W = .ok (.bool true) W := fun W => slices_Clone_string_string.eql_nil W 22 9 none _ _ _ _ Tryd.underlying22
  have hz : l0 = [] := by
   rcases Nat.eq_zero_or_pos l0.length with h0 | h0
   ·
    exact List.eq_nil_of_length_eq_zero h0
   ·
    obtain ⟨ad, hh, _⟩ := hr0.2.2 h0
    cases hh
  have HZ := Aside0.mk hz
  have HR := Aside0.mk hr0
  clear hz hr0
  go_enter Tryd.func42, Tryd.ntmps42
  go_wp2
  go_ret
  exact ⟨_, rfl, by rw [HZ.out]; exact Kd.R_nil _ _ _ _ _, Below.refl _ _⟩
 ·
  have hnil : ∀ W : World, (binOp .eql 22 (.slice (some ad) l0.length c0) (.slice none 0 0)).run Tryd.prog W = .ok (.bool false) W := fun W => slices_Clone_string_string.eql_nil W 22 9 (some ad) _ _ _ _ Tryd.underlying22
  have HR := Aside0.mk hr0
  have HL := Aside0.mk hl
  clear hr0 hl
  go_enter Tryd.func42, Tryd.ntmps42
  go_wp2_with (first
   | ((with_reducible refine gate_dst (N := 5) rfl ?_); refine Kd.R_lit Kd.string (w0 := w) w.heap.size 9 rfl (N := 5) rfl (xs := ([] : List ByteArray)) (inner := []) (ok := fun _ => True) (okp := fun _ => False) ?hr (Reps.none _ _) (fun _ h => h.elim) trivial (Below.refl _ _) (Nat.le_refl _) (by simp) ?_; (case hr => exact goR); intro v1 w1 hv1 hb1 hg1 ha1; have HV1 := Aside0.mk hv1; have HB1 := Aside0.mk hb1; clear hv1 hb1 hg1 ha1)
   | ((with_reducible refine gate_builtin (b := .append) (xs := #[.tmp 5, .tmp 6]) rfl ?_); at_builtin; refine Kd.R_append_rows Kd.string (w0 := w) w.heap.size rfl (.tmp 5) (.tmp 6) 22 9 (.string ⟨#[]⟩) 16 rfl Tryd.underlying22 info9 rfl (by decide) (by omega) v1 [] l0 _ _ _ (fun _ => True) (fun _ => False) rfl rfl HV1.out ?aR (fun _ _ h => h) (fun _ h => h.elim) (fun _ _ => trivial) HB1.out HB1.out.size ?aL ?_; (case aR => exact Kd.C_below HR.out HB1.out); (case aL => have := HL.out; simp; omega); intro v2 w2 hv2 hb2 hg2 ha2; have HV2 := Aside0.mk hv2; have HB2 := Aside0.mk hb2; clear hv2 hb2 hg2 ha2))
  go_ret
  exact ⟨_, rfl, HV2.out, HB2.out⟩

end Go.Proofs.YtoolggpfgadjlaaDoor.Z
