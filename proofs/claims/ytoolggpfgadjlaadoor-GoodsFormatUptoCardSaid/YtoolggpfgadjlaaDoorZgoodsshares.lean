/- Printed: a Go function in plain Lean, and that its call does what it says. Conditions: those each theorem states. -/
import Derived.Test.YtoolggpfgadjlaaDoorZ0
namespace Go.Proofs.YtoolggpfgadjlaaDoor.Z
open Go.RowKit Go.Proofs.YtoolggpfgadjlaaDoorW.PrintWords Go.Proofs.YtoolggpfgadjlaaDoorW.PrintLast Go.Proofs.YtoolggpfgadjlaaDoorW.PrintMore
attribute [local go_sem high] str_leq str_geq str_gtr   -- strings
attribute [local go_sem] max2_int min2_int max_two min_two max_three min_three max_four min_four   -- for this text's walks alone
set_option linter.unusedVariables false
set_option linter.unusedSimpArgs false

/-! ### goods_shares: function 29 -/
def goods_shares.l0 : Nat → List Int → Int → List Int → Int → Int → Option (Bool × Bool)
 | 0, _, _, _, _, _ => none
 | k + 1, x0, x4, x7, x8, x9 => if x9 < x8 then (if 0 ≤ x9 then (if x9 < (x7.length : Int) then (if (rd x7 x9) < 1 then (some (false, false)) else (if (rd x7 x9) > 1000000 then (some (false, false)) else (goods_shares.l0 k x0 (wrap64 (x4 + (rd x7 x9))) x7 x8 (wrap64 (x9 + 1))))) else (none)) else (none)) else (if (x0.length : Int) = 0 then (some (true, true)) else (some (true, (x4 == 1000000))))
def goods_shares.f (k : Nat) (l0 : List Int) : Option (Bool × Bool) := goods_shares.l0 k l0 0 l0 (l0.length : Int) 0
theorem goods_shares.mono_l : ∀ k, (∀ y0 y1 y2 y3 y4, LeO (goods_shares.l0 k y0 y1 y2 y3 y4) (goods_shares.l0 (k + 1) y0 y1 y2 y3 y4))
 | 0 => fun _ _ _ _ _ r h => by simp [goods_shares.l0] at h
 | k + 1 => by
  have ih0 := goods_shares.mono_l k
  ·
   intro y0 y1 y2 y3 y4
   unfold goods_shares.l0
   repeat' first
   | (with_reducible exact ih0 _ _ _ _ _)
   | (with_reducible exact LeO.refl _)
   | (with_reducible exact LeO.none _)
   | (with_reducible refine LeO.ite ?_ ?_)
   | (with_reducible refine LeO.bind ?_ (fun _ => ?_))
   | exact ih0 _ _ _ _ _
   | exact LeO.none _
   | refine LeO.ite ?_ ?_
   | refine LeO.bind ?_ (fun _ => ?_)
theorem goods_shares.mono : ∀ a0 k, LeO (goods_shares.f k a0) (goods_shares.f (k + 1) a0) := by
 intro a0 k
 have ih0 := goods_shares.mono_l k
 unfold goods_shares.f
 repeat' first
   | (with_reducible exact ih0 _ _ _ _ _)
   | (with_reducible exact LeO.refl _)
   | (with_reducible exact LeO.none _)
   | (with_reducible refine LeO.ite ?_ ?_)
   | (with_reducible refine LeO.bind ?_ (fun _ => ?_))
   | exact ih0 _ _ _ _ _
   | exact LeO.none _
   | refine LeO.ite ?_ ?_
   | refine LeO.bind ?_ (fun _ => ?_)
set_option maxHeartbeats 8000000 in
set_option maxRecDepth 100000 in
theorem goods_shares.calls (k : Nat) (A0 : Option Addr) (c0 : Nat) (l0 : List Int) (r1 : Bool) (r2 : Bool) (w : World) (hr0 : Kd.C (Kd.int .i64) w A0 l0.length l0) (hc0 : l0.length ≤ c0) (h : goods_shares.f k l0 = some (r1, r2)) :
  Calls Tryd.prog 29 #[.slice A0 l0.length c0] w fun e w' => e = .returned (.tuple #[.bool r1, .bool r2]) ∧ Drawn0 w w' := by
 have HR0 := Aside0.mk hr0
 have HC0 := Aside0.mk hc0
 clear hr0 hc0
 have H : (goods_shares.l0 k l0 0 l0 (l0.length : Int) 0) = some (r1, r2) := h
 clear h
 have H' := Aside0.mk H
 clear H
 go_enter Tryd.func29, Tryd.ntmps29
 go_wp2
 go_loopg [4, 9] k (fun kq v4 v9 w' => ∃ (x4_1 : Int) (x9_1 : Int), v4 = .int .i64 x4_1 ∧ v9 = .int .i64 x9_1 ∧ Aside0 (goods_shares.l0 kq l0 x4_1 l0 (l0.length : Int) x9_1 = some (r1, r2)) ∧ Aside0 (kq ≤ k) ∧ Drawn0 w w')
 case atStart => exact ⟨(0), (0), rls, rls, H', ⟨Nat.le_refl _⟩, by repeat (first | exact Drawn0.refl _ | apply Drawn0.step)⟩
 case round =>
  clear H'
  obtain ⟨x4_1, x9_1, rfl, rfl, HA, HK1, ⟨m1, rfl⟩⟩ := hrel
  cases gk with
  | zero => exact absurd HA.out (by simp [goods_shares.l0])
  | succ k1 =>
   have H := HA.out
   clear HA
   simp only [goods_shares.l0] at H
   by_cases c2 : x9_1 < (l0.length : Int)
   ·
    rw [if_pos c2] at H
    have c2b0 : decide (x9_1 < (l0.length : Int)) = true := decide_eq_true c2
    clear c2
    replace H := if_some H; obtain ⟨c3, H⟩ := H
    have c3b0 : decide (0 ≤ x9_1) = true := decide_eq_true c3
    clear c3
    replace H := if_some H; obtain ⟨c4, H⟩ := H
    have c4b0 : decide (x9_1 < (l0.length : Int)) = true := decide_eq_true c4
    clear c4
    by_cases c5 : (rd l0 x9_1) < 1
    ·
     rw [if_pos c5] at H
     have c5b0 : decide ((rd l0 x9_1) < 1) = true := decide_eq_true c5
     clear c5
     simp only [Option.some.injEq, Prod.mk.injEq] at H
     obtain ⟨rfl, rfl⟩ := H
     have p29001 : 0 ≤ (x9_1 : Int) := odt
     have q29001 : x9_1 < (l0.length : Int) := odt
     obtain ⟨ad29001, e29001, hx29001_0⟩ := Kd.at_int HR0.out x9_1 p29001 q29001
     cases e29001
     replace p29001 := eq_true p29001
     replace q29001 := eq_true q29001
     go_wp2
     go_ret2
     exact ⟨by first | rfl | (simp; done) | (simp [*]; done), by repeat (first | exact Drawn0.refl _ | apply Drawn0.step)⟩
    ·
     rw [if_neg c5] at H
     have c5b0 : decide ((rd l0 x9_1) < 1) = false := decide_eq_false c5
     clear c5
     by_cases c6 : (rd l0 x9_1) > 1000000
     ·
      rw [if_pos c6] at H
      have c6b0 : decide (1000000 < (rd l0 x9_1)) = true := decide_eq_true c6
      clear c6
      simp only [Option.some.injEq, Prod.mk.injEq] at H
      obtain ⟨rfl, rfl⟩ := H
      have p29001 : 0 ≤ (x9_1 : Int) := odt
      have q29001 : x9_1 < (l0.length : Int) := odt
      obtain ⟨ad29001, e29001, hx29001_0⟩ := Kd.at_int HR0.out x9_1 p29001 q29001
      cases e29001
      replace p29001 := eq_true p29001
      replace q29001 := eq_true q29001
      go_wp2
      go_ret2
      exact ⟨by first | rfl | (simp; done) | (simp [*]; done), by repeat (first | exact Drawn0.refl _ | apply Drawn0.step)⟩
     ·
      rw [if_neg c6] at H
      have c6b0 : decide (1000000 < (rd l0 x9_1)) = false := decide_eq_false c6
      clear c6
      have H' := Aside0.mk H
      clear H
      have p29001 : 0 ≤ (x9_1 : Int) := odt
      have q29001 : x9_1 < (l0.length : Int) := odt
      obtain ⟨ad29001, e29001, hx29001_0⟩ := Kd.at_int HR0.out x9_1 p29001 q29001
      cases e29001
      replace p29001 := eq_true p29001
      replace q29001 := eq_true q29001
      go_wp2
      go_roundg k1
      case measure => have := HK1.out; omega
      case rel => exact ⟨(wrap64 (x4_1 + (rd l0 x9_1))), (wrap64 (x9_1 + 1)), rls, rls, H', ⟨by have := HK1.out; omega⟩, by repeat (first | exact Drawn0.refl _ | apply Drawn0.step)⟩
   ·
    rw [if_neg c2] at H
    have c2b0 : decide (x9_1 < (l0.length : Int)) = false := decide_eq_false c2
    clear c2
    by_cases c7 : (l0.length : Int) = 0
    ·
     rw [if_pos c7] at H
     have c7b0 : ((l0.length : Int) == 0) = true := beq_iff_eq.mpr c7
     have c7b1 : ((l0.length : Int) != 0) = false := bne_eq_false_iff_eq.mpr c7
     clear c7
     simp only [Option.some.injEq, Prod.mk.injEq] at H
     obtain ⟨rfl, rfl⟩ := H
     go_wp2
     go_ret2
     exact ⟨by first | rfl | (simp; done) | (simp [*]; done), by repeat (first | exact Drawn0.refl _ | apply Drawn0.step)⟩
    ·
     rw [if_neg c7] at H
     have c7b0 : ((l0.length : Int) == 0) = false := beq_eq_false_iff_ne.mpr c7
     have c7b1 : ((l0.length : Int) != 0) = true := bne_iff_ne.mpr c7
     have c7b2 : ¬ (l0 = []) := fun h_ => c7 (by rw [h_]; rfl)
     simp only [Option.some.injEq, Prod.mk.injEq] at H
     obtain ⟨rfl, rfl⟩ := H
     go_wp2
     go_ret2
     exact ⟨by first | rfl | (simp; done) | (simp [*]; done), by repeat (first | exact Drawn0.refl _ | apply Drawn0.step)⟩

end Go.Proofs.YtoolggpfgadjlaaDoor.Z
