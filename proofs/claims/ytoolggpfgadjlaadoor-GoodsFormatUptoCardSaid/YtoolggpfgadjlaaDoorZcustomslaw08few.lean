/- Printed: a Go function in plain Lean, and that its call does what it says. Conditions: those each theorem states. -/
import Derived.Test.YtoolggpfgadjlaaDoorZ0
namespace Go.Proofs.YtoolggpfgadjlaaDoor.Z
open Go.RowKit Go.Proofs.YtoolggpfgadjlaaDoorW.PrintWords Go.Proofs.YtoolggpfgadjlaaDoorW.PrintLast Go.Proofs.YtoolggpfgadjlaaDoorW.PrintMore
attribute [local go_sem high] str_leq str_geq str_gtr   -- strings
attribute [local go_sem] max2_int min2_int max_two min_two max_three min_three max_four min_four   -- for this text's walks alone
set_option linter.unusedVariables false
set_option linter.unusedSimpArgs false

/-! ### customslaw08_few: function 22 -/
def customslaw08_few.f (l0 : List ByteArray) : Option (List ByteArray) := if (l0.length : Int) > 30 then (if 30 ≤ (l0.length : Int) then (some (l0.take 30)) else (none)) else (some l0)
set_option maxHeartbeats 8000000 in
set_option maxRecDepth 100000 in
theorem customslaw08_few.calls (P0_ : Nat → Prop) (A0 : Option Addr) (c0 : Nat) (l0 : List ByteArray) (r : List ByteArray) (w : World) (hs0 : Kd.V Kd.string 9 w w.heap.size (fun k_ => P0_ k_) (.slice A0 l0.length c0) l0) (h : customslaw08_few.f l0 = some r) :
  Calls Tryd.prog 22 #[.slice A0 l0.length c0] w fun e w' => ∃ v0_ : Value, e = .returned (v0_) ∧ Kd.V Kd.string 9 w' w.heap.size (fun k_ => (P0_ k_ ∨ w.heap.size ≤ k_)) v0_ r ∧ Below w.heap.size w w' := by
 have HO0 := Aside0.mk (show Kd.V Kd.string 9 w w.heap.size (fun k_ => (P0_ k_ ∨ w.heap.size ≤ k_)) (.slice A0 l0.length c0) l0 from Kd.V_mono hs0 (fun k_ hk => .inl hk))
 have HB := Aside0.mk (Below.refl w.heap.size w)
 have H : (if (l0.length : Int) > 30 then (if 30 ≤ (l0.length : Int) then (some (l0.take 30)) else (none)) else (some l0)) = some r := h
 clear h
 by_cases c2 : (l0.length : Int) > 30
 ·
  rw [if_pos c2] at H
  have c2b0 : decide (30 < (l0.length : Int)) = true := decide_eq_true c2
  have c2b1 : decide (30 < l0.length) = true := decide_eq_true (by omega)
  clear c2
  replace H := if_some H; obtain ⟨c3, H⟩ := H
  have c3b0 := eq_true c3
  have c3b1 : decide (30 ≤ (l0.length : Int)) = true := decide_eq_true c3
  clear c3
  obtain ⟨y22001, hy22001⟩ : ∃ y_ : List ByteArray, y_ = (l0.take 30) := ⟨_, rfl⟩
  replace H : (some y22001) = some r := by first | (rw [hy22001]; with_reducible exact H) | (have H2_ := (Option.bind_some _ _).symm.trans H; rw [hy22001]; with_reducible exact H2_) | (have H2_ := (Option.bind_some _ _).symm.trans H; with_reducible exact H2_) | with_reducible exact H | (rw [hy22001]; exact H) | exact H
  have Ny22001 := Aside0.mk hy22001
  clear hy22001
  obtain rfl := Option.some.inj H
  have q4 : (30 : Int) ≤ ((l0.length : Int) : Int) := odt
  obtain ⟨i04, hi04, _, hsz4, _⟩ := info_parts info9
  have hroom4 : l0.length ≤ c0 := (Kd.V_reads' HO0.out).2.1
  have hC4 : Kd.F Kd.string _ _ A0 l0.length l0 := (Kd.V_at (base := w.heap.size) HO0.out).2.2
  have hcut4 := cut_to (P := Tryd.prog) 22 9 .i64 Tryd.underlying22 hi04 A0 l0.length c0 30 (by omega) q4 hroom4
  have hr4 := Kd.F_take (m := 30) hC4 (by omega)
  have hy4 : y22001.length = (30 : Int).toNat := (by rw [Ny22001.out, List.length_take]; omega)
  rw [← Ny22001.out] at hr4
  rw [← hy4] at hcut4
  have HO22005 := Aside0.mk (show Kd.V Kd.string 9 _ w.heap.size _ (.slice A0 y22001.length c0) y22001 from Kd.V_mk (by omega) hr4)
  have HC22005 := Aside0.mk (show y22001.length ≤ c0 from by omega)
  clear hr4 hC4 hroom4 hi04 hsz4
  have KY4 := Aside0.mk hy4
  clear hy4
  replace q4 := eq_true q4
  go_enter Tryd.func22, Tryd.ntmps22
  go_wp2
  go_ret
  exact ⟨_, by first | rfl | (simp [errW_none, errW_some] <;> rfl) | (simp [*, errW_none, errW_some] <;> rfl), Kd.V_ext HO22005.out, below_ext HB.out⟩
 ·
  rw [if_neg c2] at H
  have c2b0 : decide (30 < (l0.length : Int)) = false := decide_eq_false c2
  have c2b1 : decide (30 < l0.length) = false := decide_eq_false (by omega)
  clear c2
  obtain rfl := Option.some.inj H
  go_enter Tryd.func22, Tryd.ntmps22
  go_wp2
  go_ret
  exact ⟨_, by first | rfl | (simp [errW_none, errW_some] <;> rfl) | (simp [*, errW_none, errW_some] <;> rfl), Kd.V_ext HO0.out, below_ext HB.out⟩

end Go.Proofs.YtoolggpfgadjlaaDoor.Z
