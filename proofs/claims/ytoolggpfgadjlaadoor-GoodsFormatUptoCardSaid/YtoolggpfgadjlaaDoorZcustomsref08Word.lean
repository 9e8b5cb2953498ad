/- Printed: a Go function in plain Lean, and that its call does what it says. Conditions: those each theorem states. -/
import Derived.Test.YtoolggpfgadjlaaDoorZ0
namespace Go.Proofs.YtoolggpfgadjlaaDoor.Z
open Go.RowKit Go.Proofs.YtoolggpfgadjlaaDoorW.PrintWords Go.Proofs.YtoolggpfgadjlaaDoorW.PrintLast Go.Proofs.YtoolggpfgadjlaaDoorW.PrintMore
attribute [local go_sem high] str_leq str_geq str_gtr   -- strings
attribute [local go_sem] max2_int min2_int max_two min_two max_three min_three max_four min_four   -- for this text's walks alone
set_option linter.unusedVariables false
set_option linter.unusedSimpArgs false

/-! ### customsref08_Word: function 31 -/
def customsref08_Word.l0 : Nat → ByteArray → Int → Option (Bool)
 | 0, _, _ => none
 | k + 1, x0, x3 => if x3 < (x0.size : Int) then (if 0 ≤ x3 then (if (bt x0 x3) < 97 then (some false) else (if (bt x0 x3) > 122 then (some false) else (customsref08_Word.l0 k x0 (wrap64 (x3 + 1))))) else (none)) else (if (x0.size : Int) ≥ 1 then (some (decide ((x0.size : Int) ≤ 12))) else (some false))
def customsref08_Word.f (k : Nat) (a0 : ByteArray) : Option (Bool) := customsref08_Word.l0 k a0 0
theorem customsref08_Word.mono_l : ∀ k, (∀ y0 y1, LeO (customsref08_Word.l0 k y0 y1) (customsref08_Word.l0 (k + 1) y0 y1))
 | 0 => fun _ _ r h => by simp [customsref08_Word.l0] at h
 | k + 1 => by
  have ih0 := customsref08_Word.mono_l k
  ·
   intro y0 y1
   unfold customsref08_Word.l0
   repeat' first
   | (with_reducible exact ih0 _ _)
   | (with_reducible exact LeO.refl _)
   | (with_reducible exact LeO.none _)
   | (with_reducible refine LeO.ite ?_ ?_)
   | (with_reducible refine LeO.bind ?_ (fun _ => ?_))
   | exact ih0 _ _
   | exact LeO.none _
   | refine LeO.ite ?_ ?_
   | refine LeO.bind ?_ (fun _ => ?_)
theorem customsref08_Word.mono : ∀ a0 k, LeO (customsref08_Word.f k a0) (customsref08_Word.f (k + 1) a0) := by
 intro a0 k
 have ih0 := customsref08_Word.mono_l k
 unfold customsref08_Word.f
 repeat' first
   | (with_reducible exact ih0 _ _)
   | (with_reducible exact LeO.refl _)
   | (with_reducible exact LeO.none _)
   | (with_reducible refine LeO.ite ?_ ?_)
   | (with_reducible refine LeO.bind ?_ (fun _ => ?_))
   | exact ih0 _ _
   | exact LeO.none _
   | refine LeO.ite ?_ ?_
   | refine LeO.bind ?_ (fun _ => ?_)
set_option maxHeartbeats 8000000 in
set_option maxRecDepth 100000 in
theorem customsref08_Word.calls (k : Nat) (a0 : ByteArray) (r : Bool) (w : World) (h : customsref08_Word.f k a0 = some r) :
  Calls Tryd.prog 31 #[.string a0] w fun e w' => e = .returned (.bool r) ∧ Drawn0 w w' := by
 have H : (customsref08_Word.l0 k a0 0) = some r := h
 clear h
 have H' := Aside0.mk H
 clear H
 go_enter Tryd.func31, Tryd.ntmps31
 go_wp2
 go_loopg [3] k (fun kq v3 w' => ∃ (x3_1 : Int), v3 = .int .i64 x3_1 ∧ Aside0 (customsref08_Word.l0 kq a0 x3_1 = some r) ∧ Aside0 (kq ≤ k) ∧ Drawn0 w w')
 case atStart => exact ⟨(0), rls, H', ⟨Nat.le_refl _⟩, by repeat (first | exact Drawn0.refl _ | apply Drawn0.step)⟩
 case round =>
  clear H'
  obtain ⟨x3_1, rfl, HA, HK1, ⟨m1, rfl⟩⟩ := hrel
  cases gk with
  | zero => exact absurd HA.out (by simp [customsref08_Word.l0])
  | succ k1 =>
   have H := HA.out
   clear HA
   simp only [customsref08_Word.l0] at H
   by_cases c2 : x3_1 < (a0.size : Int)
   ·
    rw [if_pos c2] at H
    have c2b0 : decide (x3_1 < (a0.size : Int)) = true := decide_eq_true c2
    clear c2
    replace H := if_some H; obtain ⟨c3, H⟩ := H
    have c3b0 : decide (0 ≤ x3_1) = true := decide_eq_true c3
    clear c3
    by_cases c5 : (bt a0 x3_1) < 97
    ·
     rw [if_pos c5] at H
     have c5b0 : decide ((bt a0 x3_1) < 97) = true := decide_eq_true c5
     clear c5
     obtain rfl := Option.some.inj H
     have p4 : 0 ≤ (x3_1 : Int) := odt
     have q4 : x3_1 < (a0.size : Int) := odt
     have hx4 := bt_at a0 x3_1
     replace p4 := eq_true p4
     replace q4 := eq_true q4
     go_wp2
     go_ret
     exact ⟨by first | rfl | (simp; done) | (simp [*]; done), by repeat (first | exact Drawn0.refl _ | apply Drawn0.step)⟩
    ·
     rw [if_neg c5] at H
     have c5b0 : decide ((bt a0 x3_1) < 97) = false := decide_eq_false c5
     clear c5
     by_cases c7 : (bt a0 x3_1) > 122
     ·
      rw [if_pos c7] at H
      have c7b0 : decide (122 < (bt a0 x3_1)) = true := decide_eq_true c7
      clear c7
      obtain rfl := Option.some.inj H
      have p4 : 0 ≤ (x3_1 : Int) := odt
      have q4 : x3_1 < (a0.size : Int) := odt
      have hx4 := bt_at a0 x3_1
      replace p4 := eq_true p4
      replace q4 := eq_true q4
      have p6 : 0 ≤ (x3_1 : Int) := odt
      have q6 : x3_1 < (a0.size : Int) := odt
      have hx6 := bt_at a0 x3_1
      replace p6 := eq_true p6
      replace q6 := eq_true q6
      go_wp2
      go_ret
      exact ⟨by first | rfl | (simp; done) | (simp [*]; done), by repeat (first | exact Drawn0.refl _ | apply Drawn0.step)⟩
     ·
      rw [if_neg c7] at H
      have c7b0 : decide (122 < (bt a0 x3_1)) = false := decide_eq_false c7
      clear c7
      have H' := Aside0.mk H
      clear H
      have p4 : 0 ≤ (x3_1 : Int) := odt
      have q4 : x3_1 < (a0.size : Int) := odt
      have hx4 := bt_at a0 x3_1
      replace p4 := eq_true p4
      replace q4 := eq_true q4
      have p6 : 0 ≤ (x3_1 : Int) := odt
      have q6 : x3_1 < (a0.size : Int) := odt
      have hx6 := bt_at a0 x3_1
      replace p6 := eq_true p6
      replace q6 := eq_true q6
      go_wp2
      go_roundg k1
      case measure => have := HK1.out; omega
      case rel => exact ⟨(wrap64 (x3_1 + 1)), rls, H', ⟨by have := HK1.out; omega⟩, by repeat (first | exact Drawn0.refl _ | apply Drawn0.step)⟩
   ·
    rw [if_neg c2] at H
    have c2b0 : decide (x3_1 < (a0.size : Int)) = false := decide_eq_false c2
    clear c2
    by_cases c8 : (a0.size : Int) ≥ 1
    ·
     rw [if_pos c8] at H
     have c8b0 : decide (1 ≤ (a0.size : Int)) = true := decide_eq_true c8
     have c8b1 : decide (1 ≤ a0.size) = true := decide_eq_true (by omega)
     clear c8
     obtain rfl := Option.some.inj H
     go_wp2
     go_ret
     exact ⟨by first | rfl | (simp; done) | (simp [*]; done), by repeat (first | exact Drawn0.refl _ | apply Drawn0.step)⟩
    ·
     rw [if_neg c8] at H
     have c8b0 : decide (1 ≤ (a0.size : Int)) = false := decide_eq_false c8
     have c8b1 : decide (1 ≤ a0.size) = false := decide_eq_false (by omega)
     clear c8
     obtain rfl := Option.some.inj H
     go_wp2
     go_ret
     exact ⟨by first | rfl | (simp; done) | (simp [*]; done), by repeat (first | exact Drawn0.refl _ | apply Drawn0.step)⟩

end Go.Proofs.YtoolggpfgadjlaaDoor.Z
