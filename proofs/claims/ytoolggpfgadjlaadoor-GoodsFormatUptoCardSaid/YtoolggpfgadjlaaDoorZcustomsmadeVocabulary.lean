/- Printed: a Go function in plain Lean, and that its call does what it says. Conditions: those each theorem states. -/
import Derived.Test.YtoolggpfgadjlaaDoorZ0
namespace Go.Proofs.YtoolggpfgadjlaaDoor.Z
open Go.RowKit Go.Proofs.YtoolggpfgadjlaaDoorW.PrintWords Go.Proofs.YtoolggpfgadjlaaDoorW.PrintLast Go.Proofs.YtoolggpfgadjlaaDoorW.PrintMore
attribute [local go_sem high] str_leq str_geq str_gtr   -- strings
attribute [local go_sem] max2_int min2_int max_two min_two max_three min_three max_four min_four   -- for this text's walks alone
set_option linter.unusedVariables false
set_option linter.unusedSimpArgs false

/-! ### customsmade_Vocabulary: function 45 -/
def customsmade_Vocabulary.f  : Option (List ByteArray) := some (([(⟨#[99, 104, 97, 105, 114]⟩ : ByteArray), (⟨#[100, 101, 115, 107]⟩ : ByteArray), (⟨#[103, 108, 97, 115, 115]⟩ : ByteArray), (⟨#[108, 97, 109, 112]⟩ : ByteArray), (⟨#[111, 102, 102, 105, 99, 101]⟩ : ByteArray), (⟨#[112, 97, 114, 116, 115]⟩ : ByteArray), (⟨#[115, 101, 97, 116]⟩ : ByteArray), (⟨#[115, 116, 101, 101, 108]⟩ : ByteArray), (⟨#[119, 111, 111, 100]⟩ : ByteArray)] : List ByteArray))
set_option maxHeartbeats 8000000 in
set_option maxRecDepth 100000 in
theorem customsmade_Vocabulary.calls  (r : List ByteArray) (w : World) (h : customsmade_Vocabulary.f  = some r) :
  Calls Tryd.prog 45 #[] w fun e w' => ∃ v0_ : Value, e = .returned (v0_) ∧ Kd.R Kd.string 9 w' w.heap.size (fun _ => True) v0_ r ∧ Below w.heap.size w w' := by
 have HB := Aside0.mk (Below.refl w.heap.size w)
 have H : (some (([(⟨#[99, 104, 97, 105, 114]⟩ : ByteArray), (⟨#[100, 101, 115, 107]⟩ : ByteArray), (⟨#[103, 108, 97, 115, 115]⟩ : ByteArray), (⟨#[108, 97, 109, 112]⟩ : ByteArray), (⟨#[111, 102, 102, 105, 99, 101]⟩ : ByteArray), (⟨#[112, 97, 114, 116, 115]⟩ : ByteArray), (⟨#[115, 101, 97, 116]⟩ : ByteArray), (⟨#[115, 116, 101, 101, 108]⟩ : ByteArray), (⟨#[119, 111, 111, 100]⟩ : ByteArray)] : List ByteArray))) = some r := h
 clear h
 obtain ⟨y45001, hy45001⟩ : ∃ y_ : List ByteArray, y_ = (([(⟨#[99, 104, 97, 105, 114]⟩ : ByteArray), (⟨#[100, 101, 115, 107]⟩ : ByteArray), (⟨#[103, 108, 97, 115, 115]⟩ : ByteArray), (⟨#[108, 97, 109, 112]⟩ : ByteArray), (⟨#[111, 102, 102, 105, 99, 101]⟩ : ByteArray), (⟨#[112, 97, 114, 116, 115]⟩ : ByteArray), (⟨#[115, 101, 97, 116]⟩ : ByteArray), (⟨#[115, 116, 101, 101, 108]⟩ : ByteArray), (⟨#[119, 111, 111, 100]⟩ : ByteArray)] : List ByteArray)) := ⟨_, rfl⟩
 replace H : (some y45001) = some r := by first | (rw [hy45001]; with_reducible exact H) | (have H2_ := (Option.bind_some _ _).symm.trans H; rw [hy45001]; with_reducible exact H2_) | (have H2_ := (Option.bind_some _ _).symm.trans H; with_reducible exact H2_) | with_reducible exact H | (rw [hy45001]; exact H) | exact H
 have Ny45001 := Aside0.mk hy45001
 clear hy45001
 obtain rfl := Option.some.inj H
 go_enter Tryd.func45, Tryd.ntmps45
 go_wp2_with (first | ((with_reducible refine gate_dst (N := 1) rfl ?_); refine Kd.R_lit Kd.string _ 9 ?hg (N := 1) ?hd (xs := ([(⟨#[99, 104, 97, 105, 114]⟩ : ByteArray), (⟨#[100, 101, 115, 107]⟩ : ByteArray), (⟨#[103, 108, 97, 115, 115]⟩ : ByteArray), (⟨#[108, 97, 109, 112]⟩ : ByteArray), (⟨#[111, 102, 102, 105, 99, 101]⟩ : ByteArray), (⟨#[112, 97, 114, 116, 115]⟩ : ByteArray), (⟨#[115, 101, 97, 116]⟩ : ByteArray), (⟨#[115, 116, 101, 101, 108]⟩ : ByteArray), (⟨#[119, 111, 111, 100]⟩ : ByteArray)] : List ByteArray)) (inner := [.string (⟨#[99, 104, 97, 105, 114]⟩ : ByteArray), .string (⟨#[100, 101, 115, 107]⟩ : ByteArray), .string (⟨#[103, 108, 97, 115, 115]⟩ : ByteArray), .string (⟨#[108, 97, 109, 112]⟩ : ByteArray), .string (⟨#[111, 102, 102, 105, 99, 101]⟩ : ByteArray), .string (⟨#[112, 97, 114, 116, 115]⟩ : ByteArray), .string (⟨#[115, 101, 97, 116]⟩ : ByteArray), .string (⟨#[115, 116, 101, 101, 108]⟩ : ByteArray), .string (⟨#[119, 111, 111, 100]⟩ : ByteArray)]) (ok := fun _ => True) (okp := fun _ => True) ?hr ?hp (fun _ hk => hk) trivial (Below.refl _ _) (Nat.le_refl _) (by simp) ?_; (case hd => rfl); (case hg => rfl); (case hr => exact goR); (case hp => exact (Reps.one (show Kd.M Kd.string _ _ _ (⟨#[99, 104, 97, 105, 114]⟩ : ByteArray) [.string (⟨#[99, 104, 97, 105, 114]⟩ : ByteArray)] from rfl) (Reps.one (show Kd.M Kd.string _ _ _ (⟨#[100, 101, 115, 107]⟩ : ByteArray) [.string (⟨#[100, 101, 115, 107]⟩ : ByteArray)] from rfl) (Reps.one (show Kd.M Kd.string _ _ _ (⟨#[103, 108, 97, 115, 115]⟩ : ByteArray) [.string (⟨#[103, 108, 97, 115, 115]⟩ : ByteArray)] from rfl) (Reps.one (show Kd.M Kd.string _ _ _ (⟨#[108, 97, 109, 112]⟩ : ByteArray) [.string (⟨#[108, 97, 109, 112]⟩ : ByteArray)] from rfl) (Reps.one (show Kd.M Kd.string _ _ _ (⟨#[111, 102, 102, 105, 99, 101]⟩ : ByteArray) [.string (⟨#[111, 102, 102, 105, 99, 101]⟩ : ByteArray)] from rfl) (Reps.one (show Kd.M Kd.string _ _ _ (⟨#[112, 97, 114, 116, 115]⟩ : ByteArray) [.string (⟨#[112, 97, 114, 116, 115]⟩ : ByteArray)] from rfl) (Reps.one (show Kd.M Kd.string _ _ _ (⟨#[115, 101, 97, 116]⟩ : ByteArray) [.string (⟨#[115, 101, 97, 116]⟩ : ByteArray)] from rfl) (Reps.one (show Kd.M Kd.string _ _ _ (⟨#[115, 116, 101, 101, 108]⟩ : ByteArray) [.string (⟨#[115, 116, 101, 101, 108]⟩ : ByteArray)] from rfl) (Reps.one (show Kd.M Kd.string _ _ _ (⟨#[119, 111, 111, 100]⟩ : ByteArray) [.string (⟨#[119, 111, 111, 100]⟩ : ByteArray)] from rfl) (Reps.none _ _))))))))))); intro v45002 w1 ho2 hb hg_ hnew_; clear hg_ hnew_; (first | rw [← Ny45001.out] at ho2 | (simp only [Int.reduceToNat] at ho2; rw [← Ny45001.out] at ho2)); have HO45003 := Aside0.mk (Kd.R_lower ho2 (below_size (below_ext HB.out))); replace HB := mvH HB hb; clear hb ho2))
 go_ret
 exact ⟨_, by first | rfl | (simp [errW_none, errW_some] <;> rfl) | (simp [*, errW_none, errW_some] <;> rfl), Kd.R_ext HO45003.out, below_ext HB.out⟩

end Go.Proofs.YtoolggpfgadjlaaDoor.Z
