/- Printed: a Go function in plain Lean, and that its call does what it says. Conditions: those each theorem states. -/
import Derived.Test.YtoolggpfgadjlaaDoorZ0
namespace Go.Proofs.YtoolggpfgadjlaaDoor.Z
open Go.RowKit Go.Proofs.YtoolggpfgadjlaaDoorW.PrintWords Go.Proofs.YtoolggpfgadjlaaDoorW.PrintLast Go.Proofs.YtoolggpfgadjlaaDoorW.PrintMore
attribute [local go_sem high] str_leq str_geq str_gtr   -- strings
attribute [local go_sem] max2_int min2_int max_two min_two max_three min_three max_four min_four   -- for this text's walks alone
set_option linter.unusedVariables false
set_option linter.unusedSimpArgs false

/-! ### customsref08_Joined: function 34 -/
def customsref08_Joined.l0 : Nat → List ByteArray → ByteArray → ByteArray → Int → Option (ByteArray)
 | 0, _, _, _, _ => none
 | k + 1, x0, x1, x5, x6 => if x6 < (x0.length : Int) then (if x6 > 0 then (if x5.size + x1.size ≤ 9223372036854775807 then (if 0 ≤ x6 then (if (x5 ++ x1).size + (rdOf ByteArray.empty x0 x6).size ≤ 9223372036854775807 then (customsref08_Joined.l0 k x0 x1 ((x5 ++ x1) ++ (rdOf ByteArray.empty x0 x6)) (wrap64 (x6 + 1))) else (none)) else (none)) else (none)) else (if 0 ≤ x6 then (if x5.size + (rdOf ByteArray.empty x0 x6).size ≤ 9223372036854775807 then (customsref08_Joined.l0 k x0 x1 (x5 ++ (rdOf ByteArray.empty x0 x6)) (wrap64 (x6 + 1))) else (none)) else (none))) else (some x5)
def customsref08_Joined.f (k : Nat) (l0 : List ByteArray) (a1 : ByteArray) : Option (ByteArray) := customsref08_Joined.l0 k l0 a1 (⟨#[]⟩ : ByteArray) 0
theorem customsref08_Joined.mono_l : ∀ k, (∀ y0 y1 y2 y3, LeO (customsref08_Joined.l0 k y0 y1 y2 y3) (customsref08_Joined.l0 (k + 1) y0 y1 y2 y3))
 | 0 => fun _ _ _ _ r h => by simp [customsref08_Joined.l0] at h
 | k + 1 => by
  have ih0 := customsref08_Joined.mono_l k
  ·
   intro y0 y1 y2 y3
   unfold customsref08_Joined.l0
   repeat' first
   | (with_reducible exact ih0 _ _ _ _)
   | (with_reducible exact LeO.refl _)
   | (with_reducible exact LeO.none _)
   | (with_reducible refine LeO.ite ?_ ?_)
   | (with_reducible refine LeO.bind ?_ (fun _ => ?_))
   | exact ih0 _ _ _ _
   | exact LeO.none _
   | refine LeO.ite ?_ ?_
   | refine LeO.bind ?_ (fun _ => ?_)
theorem customsref08_Joined.mono : ∀ a0 a1 k, LeO (customsref08_Joined.f k a0 a1) (customsref08_Joined.f (k + 1) a0 a1) := by
 intro a0 a1 k
 have ih0 := customsref08_Joined.mono_l k
 unfold customsref08_Joined.f
 repeat' first
   | (with_reducible exact ih0 _ _ _ _)
   | (with_reducible exact LeO.refl _)
   | (with_reducible exact LeO.none _)
   | (with_reducible refine LeO.ite ?_ ?_)
   | (with_reducible refine LeO.bind ?_ (fun _ => ?_))
   | exact ih0 _ _ _ _
   | exact LeO.none _
   | refine LeO.ite ?_ ?_
   | refine LeO.bind ?_ (fun _ => ?_)
set_option maxHeartbeats 8000000 in
set_option maxRecDepth 100000 in
theorem customsref08_Joined.calls (k : Nat) (A0 : Option Addr) (c0 : Nat) (l0 : List ByteArray) (a1 : ByteArray) (r : ByteArray) (w : World) (hr0 : Kd.C Kd.string w A0 l0.length l0) (hc0 : l0.length ≤ c0) (h : customsref08_Joined.f k l0 a1 = some r) :
  Calls Tryd.prog 34 #[.slice A0 l0.length c0, .string a1] w fun e w' => e = .returned (.string r) ∧ Drawn0 w w' := by
 have HR0 := Aside0.mk hr0
 have HC0 := Aside0.mk hc0
 clear hr0 hc0
 have H : (customsref08_Joined.l0 k l0 a1 (⟨#[]⟩ : ByteArray) 0) = some r := h
 clear h
 have H' := Aside0.mk H
 clear H
 go_enter Tryd.func34, Tryd.ntmps34
 go_wp2
 go_loopg [5, 6] k (fun kq v5 v6 w' => ∃ (x5_1 : ByteArray) (x6_1 : Int), v5 = .string x5_1 ∧ v6 = .int .i64 x6_1 ∧ Aside0 (customsref08_Joined.l0 kq l0 a1 x5_1 x6_1 = some r) ∧ Aside0 (kq ≤ k) ∧ Drawn0 w w')
 case atStart => exact ⟨((⟨#[]⟩ : ByteArray)), (0), rls, rls, H', ⟨Nat.le_refl _⟩, by repeat (first | exact Drawn0.refl _ | apply Drawn0.step)⟩
 case round =>
  clear H'
  try clear p2
  obtain ⟨x5_1, x6_1, rfl, rfl, HA, HK1, ⟨m1, rfl⟩⟩ := hrel
  cases gk with
  | zero => exact absurd HA.out (by simp [customsref08_Joined.l0])
  | succ k1 =>
   have H := HA.out
   clear HA
   simp only [customsref08_Joined.l0] at H
   by_cases c3 : x6_1 < (l0.length : Int)
   ·
    rw [if_pos c3] at H
    have c3b0 : decide (x6_1 < (l0.length : Int)) = true := decide_eq_true c3
    clear c3
    by_cases c4 : x6_1 > 0
    ·
     rw [if_pos c4] at H
     have c4b0 : decide (0 < x6_1) = true := decide_eq_true c4
     clear c4
     replace H := if_some H; obtain ⟨c5, H⟩ := H
     have c5b0 := eq_true c5
     have c5b1 : decide (x5_1.size + a1.size ≤ 9223372036854775807) = true := decide_eq_true c5
     try have c5b2 : (9223372036854775807 < x5_1.size + a1.size) = False := eq_false (Nat.not_lt.2 c5)
     replace H := if_some H; obtain ⟨c6, H⟩ := H
     have c6b0 : decide (0 ≤ x6_1) = true := decide_eq_true c6
     clear c6
     replace H := if_some H; obtain ⟨c7, H⟩ := H
     have c7b0 := eq_true c7
     have c7b1 : decide ((x5_1 ++ a1).size + (rdOf ByteArray.empty l0 x6_1).size ≤ 9223372036854775807) = true := decide_eq_true c7
     try have c7b2 : (9223372036854775807 < (x5_1 ++ a1).size + (rdOf ByteArray.empty l0 x6_1).size) = False := eq_false (Nat.not_lt.2 c7)
     (try (have c7b3 := c7b2; simp only [ByteArray.size_append, show ∀ b : UInt8, (⟨#[b]⟩ : ByteArray).size = 1 from fun _ => rfl] at c7b3))
     (try (have c7b4 := c7b2; simp only [ByteArray.size_append, show ∀ b : UInt8, (⟨#[b]⟩ : ByteArray).size = 1 from fun _ => rfl, show ∀ b c d : UInt8, (⟨#[b, c, d]⟩ : ByteArray).size = 3 from fun _ _ _ => rfl] at c7b4))
     have H' := Aside0.mk H
     clear H
     have p34001 : 0 ≤ (x6_1 : Int) := odt
     have q34001 : x6_1 < (l0.length : Int) := odt
     obtain ⟨ad34001, e34001, hx34001_0⟩ := Kd.at_string HR0.out x6_1 p34001 q34001
     cases e34001
     replace p34001 := eq_true p34001
     replace q34001 := eq_true q34001
     go_wp2
     go_roundg k1
     case measure => have := HK1.out; omega
     case rel => exact ⟨((x5_1 ++ a1) ++ (rdOf ByteArray.empty l0 x6_1)), (wrap64 (x6_1 + 1)), rls, rls, H', ⟨by have := HK1.out; omega⟩, by repeat (first | exact Drawn0.refl _ | apply Drawn0.step)⟩
    ·
     rw [if_neg c4] at H
     have c4b0 : decide (0 < x6_1) = false := decide_eq_false c4
     clear c4
     replace H := if_some H; obtain ⟨c8, H⟩ := H
     have c8b0 : decide (0 ≤ x6_1) = true := decide_eq_true c8
     clear c8
     replace H := if_some H; obtain ⟨c9, H⟩ := H
     have c9b0 := eq_true c9
     have c9b1 : decide (x5_1.size + (rdOf ByteArray.empty l0 x6_1).size ≤ 9223372036854775807) = true := decide_eq_true c9
     try have c9b2 : (9223372036854775807 < x5_1.size + (rdOf ByteArray.empty l0 x6_1).size) = False := eq_false (Nat.not_lt.2 c9)
     have H' := Aside0.mk H
     clear H
     have p34002 : 0 ≤ (x6_1 : Int) := odt
     have q34002 : x6_1 < (l0.length : Int) := odt
     obtain ⟨ad34002, e34002, hx34002_0⟩ := Kd.at_string HR0.out x6_1 p34002 q34002
     cases e34002
     replace p34002 := eq_true p34002
     replace q34002 := eq_true q34002
     go_wp2
     go_roundg k1
     case measure => have := HK1.out; omega
     case rel => exact ⟨(x5_1 ++ (rdOf ByteArray.empty l0 x6_1)), (wrap64 (x6_1 + 1)), rls, rls, H', ⟨by have := HK1.out; omega⟩, by repeat (first | exact Drawn0.refl _ | apply Drawn0.step)⟩
   ·
    rw [if_neg c3] at H
    have c3b0 : decide (x6_1 < (l0.length : Int)) = false := decide_eq_false c3
    clear c3
    obtain rfl := Option.some.inj H
    go_wp2
    go_ret
    exact ⟨by first | rfl | (simp; done) | (simp [*]; done), by repeat (first | exact Drawn0.refl _ | apply Drawn0.step)⟩

end Go.Proofs.YtoolggpfgadjlaaDoor.Z
