/- Printed: a Go function in plain Lean, and that its call does what it says. Conditions: those each theorem states. -/
import Derived.Test.YtoolggpfgadjlaaDoorZ0
import Derived.Test.YtoolggpfgadjlaaDoorZcustomsref08SameStrings
namespace Go.Proofs.YtoolggpfgadjlaaDoor.Z
open Go.RowKit Go.Proofs.YtoolggpfgadjlaaDoorW.PrintWords Go.Proofs.YtoolggpfgadjlaaDoorW.PrintLast Go.Proofs.YtoolggpfgadjlaaDoorW.PrintMore
attribute [local go_sem high] str_leq str_geq str_gtr   -- strings
attribute [local go_sem] max2_int min2_int max_two min_two max_three min_three max_four min_four   -- for this text's walks alone
set_option linter.unusedVariables false
set_option linter.unusedSimpArgs false

/-! ### customsref08_SameParts: function 20 -/
def customsref08_SameParts.l0 : Nat → List (S38) → List (S38) → Int → Option (Bool)
 | 0, _, _, _ => none
 | k + 1, x0, x1, x5 => if x5 < (x0.length : Int) then (if 0 ≤ x5 then (if x5 < (x1.length : Int) then (if ((rd_T38 x0 x5).f1) = ((rd_T38 x1 x5).f1) then ((customsref08_SameStrings.f k ((rd_T38 x0 x5).f0) ((rd_T38 x1 x5).f0)).bind fun t20005 => (if t20005 = true then (customsref08_SameParts.l0 k x0 x1 (wrap64 (x5 + 1))) else (some false))) else (some false)) else (none)) else (none)) else (some true)
def customsref08_SameParts.f (k : Nat) (l0 : List (S38)) (l1 : List (S38)) : Option (Bool) := if (l0.length : Int) = (l1.length : Int) then (customsref08_SameParts.l0 k l0 l1 0) else (some false)
theorem customsref08_SameParts.mono_l : ∀ k, (∀ y0 y1 y2, LeO (customsref08_SameParts.l0 k y0 y1 y2) (customsref08_SameParts.l0 (k + 1) y0 y1 y2))
 | 0 => fun _ _ _ r h => by simp [customsref08_SameParts.l0] at h
 | k + 1 => by
  have ih0 := customsref08_SameParts.mono_l k
  ·
   intro y0 y1 y2
   unfold customsref08_SameParts.l0
   repeat' first
   | (with_reducible exact ih0 _ _ _)
   | (with_reducible exact customsref08_SameStrings.mono _ _ _)
   | (with_reducible exact LeO.refl _)
   | (with_reducible exact LeO.none _)
   | (with_reducible refine LeO.ite ?_ ?_)
   | (with_reducible refine LeO.bind ?_ (fun _ => ?_))
   | exact ih0 _ _ _
   | exact customsref08_SameStrings.mono _ _ _
   | exact LeO.none _
   | refine LeO.ite ?_ ?_
   | refine LeO.bind ?_ (fun _ => ?_)
theorem customsref08_SameParts.mono : ∀ a0 a1 k, LeO (customsref08_SameParts.f k a0 a1) (customsref08_SameParts.f (k + 1) a0 a1) := by
 intro a0 a1 k
 have ih0 := customsref08_SameParts.mono_l k
 unfold customsref08_SameParts.f
 repeat' first
   | (with_reducible exact ih0 _ _ _)
   | (with_reducible exact customsref08_SameStrings.mono _ _ _)
   | (with_reducible exact LeO.refl _)
   | (with_reducible exact LeO.none _)
   | (with_reducible refine LeO.ite ?_ ?_)
   | (with_reducible refine LeO.bind ?_ (fun _ => ?_))
   | exact ih0 _ _ _
   | exact customsref08_SameStrings.mono _ _ _
   | exact LeO.none _
   | refine LeO.ite ?_ ?_
   | refine LeO.bind ?_ (fun _ => ?_)
set_option maxHeartbeats 8000000 in
set_option maxRecDepth 100000 in
theorem customsref08_SameParts.calls (k : Nat) (A0 : Option Addr) (c0 : Nat) (l0 : List (S38)) (A1 : Option Addr) (c1 : Nat) (l1 : List (S38)) (r : Bool) (w : World) (hr0 : Kd.C k38 w A0 l0.length l0) (hc0 : l0.length ≤ c0) (hr1 : Kd.C k38 w A1 l1.length l1) (hc1 : l1.length ≤ c1) (h : customsref08_SameParts.f k l0 l1 = some r) :
  Calls Tryd.prog 20 #[.slice A0 l0.length c0, .slice A1 l1.length c1] w fun e w' => e = .returned (.bool r) ∧ Drawn0 w w' := by
 have HR0 := Aside0.mk hr0
 have HC0 := Aside0.mk hc0
 clear hr0 hc0
 have HR1 := Aside0.mk hr1
 have HC1 := Aside0.mk hc1
 clear hr1 hc1
 have H : (if (l0.length : Int) = (l1.length : Int) then (customsref08_SameParts.l0 k l0 l1 0) else (some false)) = some r := h
 clear h
 by_cases c3 : (l0.length : Int) = (l1.length : Int)
 ·
  rw [if_pos c3] at H
  have c3b0 : ((l0.length : Int) == (l1.length : Int)) = true := beq_iff_eq.mpr c3
  have c3b1 : ((l0.length : Int) != (l1.length : Int)) = false := bne_eq_false_iff_eq.mpr c3
  have c3b2 : (l0.length == l1.length) = true := by first | simpa using c3 | (simp at c3 ⊢; omega)
  clear c3
  have H' := Aside0.mk H
  clear H
  go_enter Tryd.func20, Tryd.ntmps20
  go_wp2
  repeat (go_quiet (fail); try go_wp2)
  go_loopg [5] k (fun kq v5 w' => ∃ (x5_1 : Int), v5 = .int .i64 x5_1 ∧ Aside0 (customsref08_SameParts.l0 kq l0 l1 x5_1 = some r) ∧ Aside0 (kq ≤ k) ∧ Drawn0 w w')
  case atStart => exact ⟨(0), rls, H', ⟨Nat.le_refl _⟩, by repeat (first | exact Drawn0.refl _ | apply Drawn0.step)⟩
  case round =>
   clear H'
   try clear c1
   try clear c2
   try clear p2
   try clear c3
   try clear c3b0
   try clear c3b1
   try clear c3b2
   obtain ⟨x5_1, rfl, HA, HK1, ⟨m1, rfl⟩⟩ := hrel
   cases gk with
   | zero => exact absurd HA.out (by simp [customsref08_SameParts.l0])
   | succ k1 =>
    have H := HA.out
    clear HA
    simp only [customsref08_SameParts.l0] at H
    by_cases c4 : x5_1 < (l0.length : Int)
    ·
     rw [if_pos c4] at H
     have c4b0 : decide (x5_1 < (l0.length : Int)) = true := decide_eq_true c4
     clear c4
     replace H := if_some H; obtain ⟨c5, H⟩ := H
     have c5b0 : decide (0 ≤ x5_1) = true := decide_eq_true c5
     clear c5
     replace H := if_some H; obtain ⟨c6, H⟩ := H
     have c6b0 : decide (x5_1 < (l1.length : Int)) = true := decide_eq_true c6
     clear c6
     by_cases c7 : ((rd_T38 l0 x5_1).f1) = ((rd_T38 l1 x5_1).f1)
     ·
      rw [if_pos c7] at H
      have c7b0 : (((rd_T38 l0 x5_1).f1) == ((rd_T38 l1 x5_1).f1)) = true := beq_iff_eq.mpr c7
      have c7b1 : (((rd_T38 l0 x5_1).f1) != ((rd_T38 l1 x5_1).f1)) = false := bne_eq_false_iff_eq.mpr c7
      clear c7
      replace H := Option.bind_eq_some_iff.mp H
      obtain ⟨t20005, A80, H⟩ := H
      try dsimp only at H
      have A8 := Aside0.mk A80
      clear A80
      by_cases c9 : t20005 = true
      ·
       subst c9
       have H1 : (customsref08_SameParts.l0 k1 l0 l1 (wrap64 (x5_1 + 1))) = some r := by rw [if_pos rfl] at H; exact H
       clear H
       have H := H1
       clear H1
       have H' := Aside0.mk H
       clear H
       have p20001 : 0 ≤ (x5_1 : Int) := odt
       have q20001 : x5_1 < (l0.length : Int) := odt
       obtain ⟨ad20001, A20001_0, c20001_0, e20001, hx20001_0, hx20001_1, hl20001_0, hi20001_0⟩ := at_T38 HR0.out x5_1 p20001 q20001
       cases e20001
       have HR20001_0 := Aside0.mk hi20001_0
       have HC20001_0 := Aside0.mk hl20001_0
       clear hi20001_0 hl20001_0
       replace p20001 := eq_true p20001
       replace q20001 := eq_true q20001
       have p20002 : 0 ≤ (x5_1 : Int) := odt
       have q20002 : x5_1 < (l1.length : Int) := odt
       obtain ⟨ad20002, A20002_0, c20002_0, e20002, hx20002_0, hx20002_1, hl20002_0, hi20002_0⟩ := at_T38 HR1.out x5_1 p20002 q20002
       cases e20002
       have HR20002_0 := Aside0.mk hi20002_0
       have HC20002_0 := Aside0.mk hl20002_0
       clear hi20002_0 hl20002_0
       replace p20002 := eq_true p20002
       replace q20002 := eq_true q20002
       have p20003 : 0 ≤ (x5_1 : Int) := odt
       have q20003 : x5_1 < (l0.length : Int) := odt
       obtain ⟨ad20003, A20003_0, c20003_0, e20003, hx20003_0, hx20003_1, hl20003_0, hi20003_0⟩ := at_T38 HR0.out x5_1 p20003 q20003
       obtain rfl : ad20001 = ad20003 := (by injection e20003)
       have HR20003_0 := Aside0.mk hi20003_0
       have HC20003_0 := Aside0.mk hl20003_0
       clear hi20003_0 hl20003_0
       replace p20003 := eq_true p20003
       replace q20003 := eq_true q20003
       have ea_ := Option.some.inj (hx20001_0.symm.trans hx20003_0)
       injection ea_ with ea_ en_ ec_
       subst ea_
       subst ec_
       clear en_
       have p20004 : 0 ≤ (x5_1 : Int) := odt
       have q20004 : x5_1 < (l1.length : Int) := odt
       obtain ⟨ad20004, A20004_0, c20004_0, e20004, hx20004_0, hx20004_1, hl20004_0, hi20004_0⟩ := at_T38 HR1.out x5_1 p20004 q20004
       obtain rfl : ad20002 = ad20004 := (by injection e20004)
       have HR20004_0 := Aside0.mk hi20004_0
       have HC20004_0 := Aside0.mk hl20004_0
       clear hi20004_0 hl20004_0
       replace p20004 := eq_true p20004
       replace q20004 := eq_true q20004
       have ea_ := Option.some.inj (hx20002_0.symm.trans hx20004_0)
       injection ea_ with ea_ en_ ec_
       subst ea_
       subst ec_
       clear en_
       go_wp2_with (first | (go_at_call 39; (with_reducible refine (customsref08_SameStrings.calls k1 _ _ ((rd_T38 l0 x5_1).f0) _ _ ((rd_T38 l1 x5_1).f0) true _ ?side1 ?side2 ?side3 ?side4 A8.out).mono ?_); (case side1 => repeat (first | exact HR20003_0.out | (with_reducible refine Kd.C_alloc ?_ _) | (with_reducible refine Kd.C_drewN ?_ _) | (with_reducible refine Kd.C_drew ?_))); (case side2 => exact HC20003_0.out); (case side3 => repeat (first | exact HR20004_0.out | (with_reducible refine Kd.C_alloc ?_ _) | (with_reducible refine Kd.C_drewN ?_ _) | (with_reducible refine Kd.C_drew ?_))); (case side4 => exact HC20004_0.out); rintro e w' ⟨rfl, ⟨nd, rfl⟩⟩; (try first | exact ⟨rfl, _, World.drewN_drewN _ _ _⟩ | exact ⟨rfl, _, Eq.trans (World.drewN_drewN _ _ _) (congrArg (World.drewN _) (Nat.add_assoc _ _ _))⟩)))
       repeat (go_quiet (first | (go_at_call 39; (with_reducible refine (customsref08_SameStrings.calls k1 _ _ ((rd_T38 l0 x5_1).f0) _ _ ((rd_T38 l1 x5_1).f0) true _ ?side1 ?side2 ?side3 ?side4 A8.out).mono ?_); (case side1 => repeat (first | exact HR20003_0.out | (with_reducible refine Kd.C_alloc ?_ _) | (with_reducible refine Kd.C_drewN ?_ _) | (with_reducible refine Kd.C_drew ?_))); (case side2 => exact HC20003_0.out); (case side3 => repeat (first | exact HR20004_0.out | (with_reducible refine Kd.C_alloc ?_ _) | (with_reducible refine Kd.C_drewN ?_ _) | (with_reducible refine Kd.C_drew ?_))); (case side4 => exact HC20004_0.out); rintro e w' ⟨rfl, ⟨nd, rfl⟩⟩; (try first | exact ⟨rfl, _, World.drewN_drewN _ _ _⟩ | exact ⟨rfl, _, Eq.trans (World.drewN_drewN _ _ _) (congrArg (World.drewN _) (Nat.add_assoc _ _ _))⟩))); try go_wp2_with (first | (go_at_call 39; (with_reducible refine (customsref08_SameStrings.calls k1 _ _ ((rd_T38 l0 x5_1).f0) _ _ ((rd_T38 l1 x5_1).f0) true _ ?side1 ?side2 ?side3 ?side4 A8.out).mono ?_); (case side1 => repeat (first | exact HR20003_0.out | (with_reducible refine Kd.C_alloc ?_ _) | (with_reducible refine Kd.C_drewN ?_ _) | (with_reducible refine Kd.C_drew ?_))); (case side2 => exact HC20003_0.out); (case side3 => repeat (first | exact HR20004_0.out | (with_reducible refine Kd.C_alloc ?_ _) | (with_reducible refine Kd.C_drewN ?_ _) | (with_reducible refine Kd.C_drew ?_))); (case side4 => exact HC20004_0.out); rintro e w' ⟨rfl, ⟨nd, rfl⟩⟩; (try first | exact ⟨rfl, _, World.drewN_drewN _ _ _⟩ | exact ⟨rfl, _, Eq.trans (World.drewN_drewN _ _ _) (congrArg (World.drewN _) (Nat.add_assoc _ _ _))⟩))))
       go_roundg k1
       case measure => have := HK1.out; omega
       case rel => exact ⟨(wrap64 (x5_1 + 1)), rls, H', ⟨by have := HK1.out; omega⟩, by repeat (first | exact Drawn0.refl _ | apply Drawn0.step)⟩
      ·
       replace c9 := Bool.eq_false_iff.mpr c9
       subst c9
       have H1 : (some false) = some r := by rw [if_neg (show ¬ (false = true) by decide)] at H; exact H
       clear H
       have H := H1
       clear H1
       obtain rfl := Option.some.inj H
       have p20001 : 0 ≤ (x5_1 : Int) := odt
       have q20001 : x5_1 < (l0.length : Int) := odt
       obtain ⟨ad20001, A20001_0, c20001_0, e20001, hx20001_0, hx20001_1, hl20001_0, hi20001_0⟩ := at_T38 HR0.out x5_1 p20001 q20001
       cases e20001
       have HR20001_0 := Aside0.mk hi20001_0
       have HC20001_0 := Aside0.mk hl20001_0
       clear hi20001_0 hl20001_0
       replace p20001 := eq_true p20001
       replace q20001 := eq_true q20001
       have p20002 : 0 ≤ (x5_1 : Int) := odt
       have q20002 : x5_1 < (l1.length : Int) := odt
       obtain ⟨ad20002, A20002_0, c20002_0, e20002, hx20002_0, hx20002_1, hl20002_0, hi20002_0⟩ := at_T38 HR1.out x5_1 p20002 q20002
       cases e20002
       have HR20002_0 := Aside0.mk hi20002_0
       have HC20002_0 := Aside0.mk hl20002_0
       clear hi20002_0 hl20002_0
       replace p20002 := eq_true p20002
       replace q20002 := eq_true q20002
       have p20003 : 0 ≤ (x5_1 : Int) := odt
       have q20003 : x5_1 < (l0.length : Int) := odt
       obtain ⟨ad20003, A20003_0, c20003_0, e20003, hx20003_0, hx20003_1, hl20003_0, hi20003_0⟩ := at_T38 HR0.out x5_1 p20003 q20003
       obtain rfl : ad20001 = ad20003 := (by injection e20003)
       have HR20003_0 := Aside0.mk hi20003_0
       have HC20003_0 := Aside0.mk hl20003_0
       clear hi20003_0 hl20003_0
       replace p20003 := eq_true p20003
       replace q20003 := eq_true q20003
       have ea_ := Option.some.inj (hx20001_0.symm.trans hx20003_0)
       injection ea_ with ea_ en_ ec_
       subst ea_
       subst ec_
       clear en_
       have p20004 : 0 ≤ (x5_1 : Int) := odt
       have q20004 : x5_1 < (l1.length : Int) := odt
       obtain ⟨ad20004, A20004_0, c20004_0, e20004, hx20004_0, hx20004_1, hl20004_0, hi20004_0⟩ := at_T38 HR1.out x5_1 p20004 q20004
       obtain rfl : ad20002 = ad20004 := (by injection e20004)
       have HR20004_0 := Aside0.mk hi20004_0
       have HC20004_0 := Aside0.mk hl20004_0
       clear hi20004_0 hl20004_0
       replace p20004 := eq_true p20004
       replace q20004 := eq_true q20004
       have ea_ := Option.some.inj (hx20002_0.symm.trans hx20004_0)
       injection ea_ with ea_ en_ ec_
       subst ea_
       subst ec_
       clear en_
       go_wp2_with (first | (go_at_call 39; (with_reducible refine (customsref08_SameStrings.calls k1 _ _ ((rd_T38 l0 x5_1).f0) _ _ ((rd_T38 l1 x5_1).f0) false _ ?side1 ?side2 ?side3 ?side4 A8.out).mono ?_); (case side1 => repeat (first | exact HR20003_0.out | (with_reducible refine Kd.C_alloc ?_ _) | (with_reducible refine Kd.C_drewN ?_ _) | (with_reducible refine Kd.C_drew ?_))); (case side2 => exact HC20003_0.out); (case side3 => repeat (first | exact HR20004_0.out | (with_reducible refine Kd.C_alloc ?_ _) | (with_reducible refine Kd.C_drewN ?_ _) | (with_reducible refine Kd.C_drew ?_))); (case side4 => exact HC20004_0.out); rintro e w' ⟨rfl, ⟨nd, rfl⟩⟩; (try first | exact ⟨rfl, _, World.drewN_drewN _ _ _⟩ | exact ⟨rfl, _, Eq.trans (World.drewN_drewN _ _ _) (congrArg (World.drewN _) (Nat.add_assoc _ _ _))⟩)))
       repeat (go_quiet (first | (go_at_call 39; (with_reducible refine (customsref08_SameStrings.calls k1 _ _ ((rd_T38 l0 x5_1).f0) _ _ ((rd_T38 l1 x5_1).f0) false _ ?side1 ?side2 ?side3 ?side4 A8.out).mono ?_); (case side1 => repeat (first | exact HR20003_0.out | (with_reducible refine Kd.C_alloc ?_ _) | (with_reducible refine Kd.C_drewN ?_ _) | (with_reducible refine Kd.C_drew ?_))); (case side2 => exact HC20003_0.out); (case side3 => repeat (first | exact HR20004_0.out | (with_reducible refine Kd.C_alloc ?_ _) | (with_reducible refine Kd.C_drewN ?_ _) | (with_reducible refine Kd.C_drew ?_))); (case side4 => exact HC20004_0.out); rintro e w' ⟨rfl, ⟨nd, rfl⟩⟩; (try first | exact ⟨rfl, _, World.drewN_drewN _ _ _⟩ | exact ⟨rfl, _, Eq.trans (World.drewN_drewN _ _ _) (congrArg (World.drewN _) (Nat.add_assoc _ _ _))⟩))); try go_wp2_with (first | (go_at_call 39; (with_reducible refine (customsref08_SameStrings.calls k1 _ _ ((rd_T38 l0 x5_1).f0) _ _ ((rd_T38 l1 x5_1).f0) false _ ?side1 ?side2 ?side3 ?side4 A8.out).mono ?_); (case side1 => repeat (first | exact HR20003_0.out | (with_reducible refine Kd.C_alloc ?_ _) | (with_reducible refine Kd.C_drewN ?_ _) | (with_reducible refine Kd.C_drew ?_))); (case side2 => exact HC20003_0.out); (case side3 => repeat (first | exact HR20004_0.out | (with_reducible refine Kd.C_alloc ?_ _) | (with_reducible refine Kd.C_drewN ?_ _) | (with_reducible refine Kd.C_drew ?_))); (case side4 => exact HC20004_0.out); rintro e w' ⟨rfl, ⟨nd, rfl⟩⟩; (try first | exact ⟨rfl, _, World.drewN_drewN _ _ _⟩ | exact ⟨rfl, _, Eq.trans (World.drewN_drewN _ _ _) (congrArg (World.drewN _) (Nat.add_assoc _ _ _))⟩))))
       go_ret
       exact ⟨by first | rfl | (simp; done) | (simp [*]; done), by repeat (first | exact Drawn0.refl _ | apply Drawn0.step)⟩
     ·
      rw [if_neg c7] at H
      have c7b0 : (((rd_T38 l0 x5_1).f1) == ((rd_T38 l1 x5_1).f1)) = false := beq_eq_false_iff_ne.mpr c7
      have c7b1 : (((rd_T38 l0 x5_1).f1) != ((rd_T38 l1 x5_1).f1)) = true := bne_iff_ne.mpr c7
      obtain rfl := Option.some.inj H
      have p20001 : 0 ≤ (x5_1 : Int) := odt
      have q20001 : x5_1 < (l0.length : Int) := odt
      obtain ⟨ad20001, A20001_0, c20001_0, e20001, hx20001_0, hx20001_1, hl20001_0, hi20001_0⟩ := at_T38 HR0.out x5_1 p20001 q20001
      cases e20001
      have HR20001_0 := Aside0.mk hi20001_0
      have HC20001_0 := Aside0.mk hl20001_0
      clear hi20001_0 hl20001_0
      replace p20001 := eq_true p20001
      replace q20001 := eq_true q20001
      have p20002 : 0 ≤ (x5_1 : Int) := odt
      have q20002 : x5_1 < (l1.length : Int) := odt
      obtain ⟨ad20002, A20002_0, c20002_0, e20002, hx20002_0, hx20002_1, hl20002_0, hi20002_0⟩ := at_T38 HR1.out x5_1 p20002 q20002
      cases e20002
      have HR20002_0 := Aside0.mk hi20002_0
      have HC20002_0 := Aside0.mk hl20002_0
      clear hi20002_0 hl20002_0
      replace p20002 := eq_true p20002
      replace q20002 := eq_true q20002
      go_wp2
      repeat (go_quiet (fail); try go_wp2)
      go_ret
      exact ⟨by first | rfl | (simp; done) | (simp [*]; done), by repeat (first | exact Drawn0.refl _ | apply Drawn0.step)⟩
    ·
     rw [if_neg c4] at H
     have c4b0 : decide (x5_1 < (l0.length : Int)) = false := decide_eq_false c4
     clear c4
     obtain rfl := Option.some.inj H
     go_wp2
     repeat (go_quiet (fail); try go_wp2)
     go_ret
     exact ⟨by first | rfl | (simp; done) | (simp [*]; done), by repeat (first | exact Drawn0.refl _ | apply Drawn0.step)⟩
 ·
  rw [if_neg c3] at H
  have c3b0 : ((l0.length : Int) == (l1.length : Int)) = false := beq_eq_false_iff_ne.mpr c3
  have c3b1 : ((l0.length : Int) != (l1.length : Int)) = true := bne_iff_ne.mpr c3
  have c3b2 : (l0.length == l1.length) = false := by first | simpa using c3 | (simp at c3 ⊢; omega)
  obtain rfl := Option.some.inj H
  go_enter Tryd.func20, Tryd.ntmps20
  go_wp2
  repeat (go_quiet (fail); try go_wp2)
  go_ret
  exact ⟨by first | rfl | (simp; done) | (simp [*]; done), by repeat (first | exact Drawn0.refl _ | apply Drawn0.step)⟩

end Go.Proofs.YtoolggpfgadjlaaDoor.Z
