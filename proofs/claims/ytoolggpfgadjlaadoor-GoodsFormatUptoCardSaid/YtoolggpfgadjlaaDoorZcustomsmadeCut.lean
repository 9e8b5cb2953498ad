/- Printed: a Go function in plain Lean, and that its call does what it says. Conditions: those each theorem states. -/
import Derived.Test.YtoolggpfgadjlaaDoorZ0
namespace Go.Proofs.YtoolggpfgadjlaaDoor.Z
open Go.RowKit Go.Proofs.YtoolggpfgadjlaaDoorW.PrintWords Go.Proofs.YtoolggpfgadjlaaDoorW.PrintLast Go.Proofs.YtoolggpfgadjlaaDoorW.PrintMore
attribute [local go_sem high] str_leq str_geq str_gtr   -- strings
attribute [local go_sem] max2_int min2_int max_two min_two max_three min_three max_four min_four   -- for this text's walks alone
set_option linter.unusedVariables false
set_option linter.unusedSimpArgs false

/-! ### customsmade_Cut: function 23 -/
def customsmade_Cut.f (l0 : List Int) (a1 : Int) : Option (List Int) := if (l0.length : Int) > a1 then (if 0 ≤ a1 then (if a1 ≤ (l0.length : Int) then (some (l0.take (a1 : Int).toNat)) else (none)) else (none)) else (some l0)
set_option maxHeartbeats 8000000 in
set_option maxRecDepth 100000 in
theorem customsmade_Cut.calls (A0 : Option Addr) (c0 : Nat) (l0 : List Int) (a1 : Int) (r : List Int) (w : World) (hr0 : Kd.C (Kd.int .i64) w A0 l0.length l0) (hc0 : l0.length ≤ c0) (h : customsmade_Cut.f l0 a1 = some r) :
  Calls Tryd.prog 23 #[.slice A0 l0.length c0, .int .i64 a1] w fun e w' => ∃ (A_ : Option Addr) (c_ : Nat), e = .returned (.slice A_ r.length c_) ∧ r.length ≤ c_ ∧ (∀ w0, Kd.C (Kd.int .i64) w0 A0 l0.length l0 → Kd.C (Kd.int .i64) w0 A_ r.length r) ∧ Below w.heap.size w w' := by
 have HB := Aside0.mk (Below.refl w.heap.size w)
 have H : (if (l0.length : Int) > a1 then (if 0 ≤ a1 then (if a1 ≤ (l0.length : Int) then (some (l0.take (a1 : Int).toNat)) else (none)) else (none)) else (some l0)) = some r := h
 clear h
 by_cases c3 : (l0.length : Int) > a1
 ·
  rw [if_pos c3] at H
  have c3b0 : decide (a1 < (l0.length : Int)) = true := decide_eq_true c3
  clear c3
  replace H := if_some H; obtain ⟨c4, H⟩ := H
  have c4b0 := eq_true c4
  have c4b1 : decide (0 ≤ a1) = true := decide_eq_true c4
  clear c4
  replace H := if_some H; obtain ⟨c5, H⟩ := H
  have c5b0 := eq_true c5
  have c5b1 : decide (a1 ≤ (l0.length : Int)) = true := decide_eq_true c5
  clear c5
  obtain ⟨y67001, hy67001⟩ : ∃ y_ : List Int, y_ = (l0.take (a1 : Int).toNat) := ⟨_, rfl⟩
  replace H : (some y67001) = some r := by first | (rw [hy67001]; with_reducible exact H) | exact H
  have Ny67001 := Aside0.mk hy67001
  clear hy67001
  obtain rfl := Option.some.inj H
  have q6 : (a1 : Int) ≤ ((l0.length : Int) : Int) := odt
  obtain ⟨i06, hi06, _, hsz6, _⟩ := info_parts info3
  have hcut6 := cut_to (P := Tryd.prog) 27 3 .i64 Tryd.underlying27 hi06 A0 l0.length c0 a1 (odt) q6 hc0
  have hr6 : ∀ w0, Kd.C (Kd.int .i64) w0 A0 l0.length l0 → Kd.C (Kd.int .i64) w0 A0 (l0.take (a1 : Int).toNat).length (l0.take (a1 : Int).toNat) := fun w0 hr0 => Kd.C_take (m := (a1 : Int).toNat) hr0 (by omega)
  have hy6 : y67001.length = (a1 : Int).toNat := (by rw [Ny67001.out, List.length_take]; omega)
  rw [← Ny67001.out] at hr6
  rw [← hy6] at hcut6
  have HC6 := Aside0.mk (show y67001.length ≤ c0 from by omega)
  have HR6 := Aside0.mk hr6
  clear hr6 hi06 hsz6 hr0
  have KY6 := Aside0.mk hy6
  clear hy6
  replace q6 := eq_true q6
  go_enter Tryd.func23, Tryd.ntmps23
  go_wp2
  go_ret
  exact ⟨_, _, rfl, HC6.out, HR6.out, below_ext HB.out⟩
 ·
  rw [if_neg c3] at H
  have c3b0 : decide (a1 < (l0.length : Int)) = false := decide_eq_false c3
  clear c3
  obtain rfl := Option.some.inj H
  have HC0 := Aside0.mk hc0
  clear hr0 hc0
  go_enter Tryd.func23, Tryd.ntmps23
  go_wp2
  go_ret
  exact ⟨_, _, rfl, HC0.out, fun _ h_ => h_, below_ext HB.out⟩

end Go.Proofs.YtoolggpfgadjlaaDoor.Z
