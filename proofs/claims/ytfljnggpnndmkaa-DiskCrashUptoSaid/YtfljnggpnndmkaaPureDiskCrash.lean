/- The plain law of customslaw33.DiskCrash. Conditions: those each theorem states. -/
import Derived.Test.YtfljnggpnndmkaaZcustomslaw33DiskCrash
import Derived.Test.YtfljnggpnndmkaaOpn
import Derived.Test.YtfljnggpnndmkaaFlipLaws
namespace Go.Proofs.Ytfljnggpnndmkaa.Pure
open Go.RowKit Go.Proofs.YtfljnggpnndmkaaW.PrintWords Go.Proofs.YtfljnggpnndmkaaW.PrintLast Go.Proofs.YtfljnggpnndmkaaW.PrintMore Go.Proofs.Ytfljnggpnndmkaa.Opening

set_option linter.unusedVariables false
set_option linter.unusedSimpArgs false
theorem DiskCrash (l0_0 : (List Int)) (l0_1 : (List Int)) (a1 : Int) (a2 : Int) (a3 : Int) (a4 : Bool) (hb : bkL (fun z => 1) l0_0 + bkL (fun z => 1) l0_1 + 1 + 1 + 1 + 1 ≤ 1048576) (w0_0 : (l0_0.length * 1 ≤ 140737488351232 ∧ ∀ z0 ∈ l0_0, (Lit.int .u8 z0).wf = true)) (w0_1 : (l0_1.length * 1 ≤ 140737488351232 ∧ ∀ z0 ∈ l0_1, (Lit.int .u8 z0).wf = true)) (w1 : (Lit.int .i64 a1).wf = true) (w2 : (Lit.int .i64 a2).wf = true) (w3 : (Lit.int .i64 a3).wf = true) (w4 : True) : ∃ k, Z.customslaw33_DiskCrash.f k l0_0 l0_1 a1 a2 a3 a4 = some true := by
  simp only [bkL_one] at hb
  have n1 := i64_of w1
  have n2 := i64_of w2
  have n3 := i64_of w3
  have key : ∀ n m j : Int, (-9223372036854775808 ≤ j ∧ j ≤ 9223372036854775807) → Z.customslaw33_DiskCrash.j0 1 n m j l0_0 l0_1 = some true := by
    intro n m j hj
    simp only [Z.customslaw33_DiskCrash.j0, truncate_eq l0_0 l0_1 n (by omega), ref_truncate_eq l0_0 l0_1 n (by omega), crash_eq l0_0 l0_1 m (by omega), ref_crash_eq l0_0 l0_1 m (by omega),
      flip_eq l0_0 l0_1 j (by omega) (by omega) hj, ref_flip_eq l0_0 l0_1 j (by omega) hj, Option.bind_some, sameDisk_self, awake33, if_true]
  refine ⟨1, ?_⟩
  simp only [Z.customslaw33_DiskCrash.f]
  by_cases h : a4 = true
  · rw [if_pos h]; exact key _ _ _ n3
  · rw [if_neg h, wrap64_id ((l0_0.length : Int) + (l0_1.length : Int)) (by omega), wrap64_id ((l0_0.length : Int) + (l0_1.length : Int) + 2) (by omega), wrap64_id ((l0_1.length : Int) + 3) (by omega), wrap64_id (8 * (l0_0.length : Int)) (by omega), wrap64_id (8 * (l0_0.length : Int) + 9) (by omega)]
    obtain ⟨r1, e1, _, _⟩ := within_eq a1 ((l0_0.length : Int) + (l0_1.length : Int) + 2) n1 (by omega) (by omega)
    obtain ⟨r2, e2, _, _⟩ := within_eq a2 ((l0_1.length : Int) + 3) n2 (by omega) (by omega)
    obtain ⟨r3, e3, _, _⟩ := within_eq a3 (8 * (l0_0.length : Int) + 9) n3 (by omega) (by omega)
    rw [e1, e2, e3]
    simp only [Option.bind_some]
    rw [wrap64_id (r3 - 1) (by omega)]
    exact key _ _ _ (by omega)
end Go.Proofs.Ytfljnggpnndmkaa.Pure
