/- Printed: a Go function in plain Lean, and that its call does what it says. Conditions: those each theorem states. -/
import Derived.Test.YtoolggpfgadjlaaDoorZ0
namespace Go.Proofs.YtoolggpfgadjlaaDoor.Z
open Go.RowKit Go.Proofs.YtoolggpfgadjlaaDoorW.PrintWords Go.Proofs.YtoolggpfgadjlaaDoorW.PrintLast Go.Proofs.YtoolggpfgadjlaaDoorW.PrintMore
attribute [local go_sem high] str_leq str_geq str_gtr   -- strings
attribute [local go_sem] max2_int min2_int max_two min_two max_three min_three max_four min_four   -- for this text's walks alone
set_option linter.unusedVariables false
set_option linter.unusedSimpArgs false

/-! ### strings_Split: function 36 -/
def strings_Split.f (a0 : ByteArray) (a1 : ByteArray) : Option (List ByteArray) := if a0.size < 4294967281 ∧ 1 ≤ a1.size then some (Lib.splitB a1 0 (Lib.countB a0 a1) a0) else none
theorem strings_Split.calls (a0 : ByteArray) (a1 : ByteArray) (r : List ByteArray) (w : World) (h : strings_Split.f a0 a1 = some r) (hG : GL w) :
  Calls Tryd.prog 36 #[.string a0, .string a1] w fun e w' => ∃ v0_ : Value, e = .returned (v0_) ∧ Kd.R Kd.string 9 w' w.heap.size (fun _ => True) v0_ r ∧ Below w.heap.size w w' := by
 unfold strings_Split.f at h
 split at h
 case isFalse => cases h
 case isTrue hs =>
 obtain rfl := Option.some.inj h
 obtain ⟨m, hm⟩ := hG.maxLen
 refine (Tryd.strings_Split a0 a1 m w hs.1 hm hs.2).mono ?_
 rintro e w' ⟨rfl, rfl⟩
 have hl : (Lib.splitB a1 0 (Lib.countB a0 a1) a0).length = Lib.countB a0 a1 + 1 := Lib.splitB_all a1 hs.2 0 _ a0 rfl
 have hle := Lib.countB_le a1 hs.2 a0.size a0 (Nat.le_refl _)
 refine ⟨_, rfl, ?_, below_alloc (Below.refl _ _) _⟩
 rw [← hl]
 refine Kd.R_of_own (enc := Value.string) ?_ (fun _ _ => trivial)
 have := World.ownsRow_lit (base := w.heap.size) (e := 9) (size := 1) w ((Lib.splitB a1 0 (Lib.countB a0 a1) a0).map Value.string).toArray (Lib.splitB a1 0 (Lib.countB a0 a1) a0).length (Nat.le_refl _) (by unfold maxLen; omega) (by simp)
 simpa [encs] using this

end Go.Proofs.YtoolggpfgadjlaaDoor.Z
