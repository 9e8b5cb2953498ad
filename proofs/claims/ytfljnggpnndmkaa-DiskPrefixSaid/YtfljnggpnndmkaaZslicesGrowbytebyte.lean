/- Written by a program of this session: each Go function as a plain Lean function, and that the machine's call does what it says. Conditions: none but those each theorem states. -/
import Derived.Test.YtfljnggpnndmkaaZ0
namespace Go.Proofs.Ytfljnggpnndmkaa.Z
open Go.RowKit Go.Proofs.YtfljnggpnndmkaaW.PrintWords Go.Proofs.YtfljnggpnndmkaaW.PrintLast Go.Proofs.YtfljnggpnndmkaaW.PrintMore
attribute [local go_sem] max2_int min2_int max_two min_two max_three min_three max_four min_four   -- for this text's walks alone
set_option linter.unusedVariables false
set_option linter.unusedSimpArgs false

/-! ### slices_Grow_byte_byte: function 78 -/
-- slices.Grow(nil, n)
set_option maxHeartbeats 8000000 in
theorem slices_Grow_byte_byte.of_nil (n : Int) (hn0 : 0 ≤ n) (hn : n ≤ 140737488355328) (w : World) :
    Calls Try.prog 78 #[.slice none 0 0, .int .i64 n] w fun e w' => ∃ v0_ : Value, e = .returned (v0_) ∧ Kd.R (Kd.int .u8) 5 w' w.heap.size (fun _ => True) v0_ [] ∧ Below w.heap.size w w' := by
  have hd : decide (n < 0) = false := decide_eq_false (by omega)
  by_cases h1 : 0 < n
  · have hd1 : decide (0 < n) = true := decide_eq_true h1
    have hw : IntKind.i64.wrap n = n := by rw [IntKind.wrap_i64]; omega
    go_enter Try.func78, Try.ntmps78
    go_wp2_with (first
      | ((with_reducible refine gate_builtin (b := .append) (xs := #[.tmp 20, .tmp 21]) rfl ?_); at_builtin; refine Kd.R_append_zeros (Kd.int .u8) (w0 := w) w.heap.size rfl (.tmp 20) (.tmp 21) 22 3 5 (.int .u8 0) 1 rfl Try.underlying22 Try.underlying3 info5 rfl (by decide) (by omega) (.slice none 0 0) [] 0 n (fun _ => True) rfl rfl rfl (fun _ _ => trivial) (Kd.R_nil _ _ _ _ _) hn0 (Below.refl _ _) (Nat.le_refl _) ?aL ?_; (case aL => simp; omega); intro v2 w2 hv2 hb2 hg2 ha2; obtain ⟨A2, c2, rfl⟩ := Kd.R_slice hv2; have HV2 := Aside0.mk (Kd.R_take (m := 0) hv2 (by omega)); have HB2 := Aside0.mk hb2; clear hv2 hb2 hg2 ha2))
    go_ret
    exact ⟨_, rfl, by simpa using HV2.out, HB2.out⟩
  · have hd1 : decide (0 < n) = false := decide_eq_false h1
    have hw : IntKind.i64.wrap n = n := by rw [IntKind.wrap_i64]; omega
    go_enter Try.func78, Try.ntmps78
    go_wp2
    go_ret
    exact ⟨_, rfl, Kd.R_nil _ _ _ _ _, Below.refl _ _⟩

end Go.Proofs.Ytfljnggpnndmkaa.Z
