/- Printed: a Go function in plain Lean, and that its call does what it says. Conditions: those each theorem states. -/
import Derived.Test.YtoolggpfgadjlaaDoorZ0
import Derived.Test.YtoolggpfgadjlaaDoorZcustomsref08Word
namespace Go.Proofs.YtoolggpfgadjlaaDoor.Z
open Go.RowKit Go.Proofs.YtoolggpfgadjlaaDoorW.PrintWords Go.Proofs.YtoolggpfgadjlaaDoorW.PrintLast Go.Proofs.YtoolggpfgadjlaaDoorW.PrintMore
attribute [local go_sem high] str_leq str_geq str_gtr   -- strings
attribute [local go_sem] max2_int min2_int max_two min_two max_three min_three max_four min_four   -- for this text's walks alone
set_option linter.unusedVariables false
set_option linter.unusedSimpArgs false

/-! ### customsref08_Words: function 30 -/
def customsref08_Words.l0 : Nat → List ByteArray → Int → Option (Bool)
 | 0, _, _ => none
 | k + 1, x0, x3 => if x3 < (x0.length : Int) then (if 0 ≤ x3 then ((customsref08_Word.f k (rdOf ByteArray.empty x0 x3)).bind fun t30002 => (if t30002 = true then (if x3 > 0 then (if 0 ≤ (wrap64 (x3 - 1)) then (if (wrap64 (x3 - 1)) < (x0.length : Int) then (if ((Op.bytesLess ((rdOf ByteArray.empty x0 (wrap64 (x3 - 1))).toList) ((rdOf ByteArray.empty x0 x3).toList)) = true) then (customsref08_Words.l0 k x0 (wrap64 (x3 + 1))) else (some false)) else (none)) else (none)) else (customsref08_Words.l0 k x0 (wrap64 (x3 + 1)))) else (some false))) else (none)) else (some (decide ((x0.length : Int) ≤ 8)))
def customsref08_Words.f (k : Nat) (l0 : List ByteArray) : Option (Bool) := customsref08_Words.l0 k l0 0
theorem customsref08_Words.mono_l : ∀ k, (∀ y0 y1, LeO (customsref08_Words.l0 k y0 y1) (customsref08_Words.l0 (k + 1) y0 y1))
 | 0 => fun _ _ r h => by simp [customsref08_Words.l0] at h
 | k + 1 => by
  have ih0 := customsref08_Words.mono_l k
  ·
   intro y0 y1
   unfold customsref08_Words.l0
   repeat' first
   | (with_reducible exact ih0 _ _)
   | (with_reducible exact customsref08_Word.mono _ _)
   | (with_reducible exact LeO.refl _)
   | (with_reducible exact LeO.none _)
   | (with_reducible refine LeO.ite ?_ ?_)
   | (with_reducible refine LeO.bind ?_ (fun _ => ?_))
   | exact ih0 _ _
   | exact customsref08_Word.mono _ _
   | exact LeO.none _
   | refine LeO.ite ?_ ?_
   | refine LeO.bind ?_ (fun _ => ?_)
theorem customsref08_Words.mono : ∀ a0 k, LeO (customsref08_Words.f k a0) (customsref08_Words.f (k + 1) a0) := by
 intro a0 k
 have ih0 := customsref08_Words.mono_l k
 unfold customsref08_Words.f
 repeat' first
   | (with_reducible exact ih0 _ _)
   | (with_reducible exact customsref08_Word.mono _ _)
   | (with_reducible exact LeO.refl _)
   | (with_reducible exact LeO.none _)
   | (with_reducible refine LeO.ite ?_ ?_)
   | (with_reducible refine LeO.bind ?_ (fun _ => ?_))
   | exact ih0 _ _
   | exact customsref08_Word.mono _ _
   | exact LeO.none _
   | refine LeO.ite ?_ ?_
   | refine LeO.bind ?_ (fun _ => ?_)
set_option maxHeartbeats 8000000 in
set_option maxRecDepth 100000 in
theorem customsref08_Words.calls (k : Nat) (A0 : Option Addr) (c0 : Nat) (l0 : List ByteArray) (r : Bool) (w : World) (hr0 : Kd.C Kd.string w A0 l0.length l0) (hc0 : l0.length ≤ c0) (h : customsref08_Words.f k l0 = some r) :
  Calls Tryd.prog 30 #[.slice A0 l0.length c0] w fun e w' => e = .returned (.bool r) ∧ Drawn0 w w' := by
 have HR0 := Aside0.mk hr0
 have HC0 := Aside0.mk hc0
 clear hr0 hc0
 have H : (customsref08_Words.l0 k l0 0) = some r := h
 clear h
 have H' := Aside0.mk H
 clear H
 go_enter Tryd.func30, Tryd.ntmps30
 go_wp2
 repeat (go_quiet (fail); try go_wp2)
 go_loopg [3] k (fun kq v3 w' => ∃ (x3_1 : Int), v3 = .int .i64 x3_1 ∧ Aside0 (customsref08_Words.l0 kq l0 x3_1 = some r) ∧ Aside0 (kq ≤ k) ∧ Drawn0 w w')
 case atStart => exact ⟨(0), rls, H', ⟨Nat.le_refl _⟩, by repeat (first | exact Drawn0.refl _ | apply Drawn0.step)⟩
 case round =>
  clear H'
  obtain ⟨x3_1, rfl, HA, HK1, ⟨m1, rfl⟩⟩ := hrel
  cases gk with
  | zero => exact absurd HA.out (by simp [customsref08_Words.l0])
  | succ k1 =>
   have H := HA.out
   clear HA
   simp only [customsref08_Words.l0] at H
   by_cases c2 : x3_1 < (l0.length : Int)
   ·
    rw [if_pos c2] at H
    have c2b0 : decide (x3_1 < (l0.length : Int)) = true := decide_eq_true c2
    clear c2
    replace H := if_some H; obtain ⟨c3, H⟩ := H
    have c3b0 : decide (0 ≤ x3_1) = true := decide_eq_true c3
    clear c3
    replace H := Option.bind_eq_some_iff.mp H
    obtain ⟨t30002, A40, H⟩ := H
    try dsimp only at H
    have A4 := Aside0.mk A40
    clear A40
    by_cases c5 : t30002 = true
    ·
     subst c5
     have H1 : (if x3_1 > 0 then (if 0 ≤ (wrap64 (x3_1 - 1)) then (if (wrap64 (x3_1 - 1)) < (l0.length : Int) then (if ((Op.bytesLess ((rdOf ByteArray.empty l0 (wrap64 (x3_1 - 1))).toList) ((rdOf ByteArray.empty l0 x3_1).toList)) = true) then (customsref08_Words.l0 k1 l0 (wrap64 (x3_1 + 1))) else (some false)) else (none)) else (none)) else (customsref08_Words.l0 k1 l0 (wrap64 (x3_1 + 1)))) = some r := by rw [if_pos rfl] at H; exact H
     clear H
     have H := H1
     clear H1
     by_cases c6 : x3_1 > 0
     ·
      rw [if_pos c6] at H
      have c6b0 : decide (0 < x3_1) = true := decide_eq_true c6
      clear c6
      obtain ⟨ji7, hji7⟩ : ∃ j_ : Int, (wrap64 (x3_1 - 1)) = j_ := ⟨_, rfl⟩
      replace H : (if 0 ≤ (ji7) then (if (ji7) < (l0.length : Int) then (if ((Op.bytesLess ((rdOf ByteArray.empty l0 (ji7)).toList) ((rdOf ByteArray.empty l0 x3_1).toList)) = true) then (customsref08_Words.l0 k1 l0 (wrap64 (x3_1 + 1))) else (some false)) else (none)) else (none)) = some r := by first | (rw [hji7] at H; exact H) | (simp only [hji7] at H ⊢; exact H)
      (try rw [hji7] at A4)
      have hji7w : (IntKind.i64.wrap (x3_1 - 1)) = ji7 := (i64_w _).trans hji7
      replace H := if_some H; obtain ⟨c8, H⟩ := H
      have c8b0 : decide (0 ≤ (ji7)) = true := decide_eq_true c8
      clear c8
      replace H := if_some H; obtain ⟨c9, H⟩ := H
      have c9b0 : decide ((ji7) < (l0.length : Int)) = true := decide_eq_true c9
      clear c9
      by_cases c10 : ((Op.bytesLess ((rdOf ByteArray.empty l0 (ji7)).toList) ((rdOf ByteArray.empty l0 x3_1).toList)) = true)
      ·
       rw [if_pos c10] at H
       have c10b0 : (Op.bytesLess ((rdOf ByteArray.empty l0 (ji7)).toList) ((rdOf ByteArray.empty l0 x3_1).toList)) = true := c10
       clear c10
       have H' := Aside0.mk H
       clear H
       have p30001 : 0 ≤ (x3_1 : Int) := odt
       have q30001 : x3_1 < (l0.length : Int) := odt
       obtain ⟨ad30001, e30001, hx30001_0⟩ := Kd.at_string HR0.out x3_1 p30001 q30001
       cases e30001
       replace p30001 := eq_true p30001
       replace q30001 := eq_true q30001
       have p30003 : 0 ≤ ((ji7) : Int) := odt
       have q30003 : (ji7) < (l0.length : Int) := odt
       obtain ⟨ad30003, e30003, hx30003_0⟩ := Kd.at_string HR0.out (ji7) p30003 q30003
       obtain rfl : ad30001 = ad30003 := (by injection e30003)
       replace p30003 := eq_true p30003
       replace q30003 := eq_true q30003
       have p30004 : 0 ≤ (x3_1 : Int) := odt
       have q30004 : x3_1 < (l0.length : Int) := odt
       obtain ⟨ad30004, e30004, hx30004_0⟩ := Kd.at_string HR0.out x3_1 p30004 q30004
       obtain rfl : ad30001 = ad30004 := (by injection e30004)
       replace p30004 := eq_true p30004
       replace q30004 := eq_true q30004
       go_wp2_with (first | (go_at_call 31; (with_reducible refine (customsref08_Word.calls k1 (rdOf ByteArray.empty l0 x3_1) true _ A4.out).mono ?_); rintro e w' ⟨rfl, ⟨nd, rfl⟩⟩; (try first | exact ⟨rfl, _, World.drewN_drewN _ _ _⟩ | exact ⟨rfl, _, Eq.trans (World.drewN_drewN _ _ _) (congrArg (World.drewN _) (Nat.add_assoc _ _ _))⟩)))
       repeat (go_quiet (first | (go_at_call 31; (with_reducible refine (customsref08_Word.calls k1 (rdOf ByteArray.empty l0 x3_1) true _ A4.out).mono ?_); rintro e w' ⟨rfl, ⟨nd, rfl⟩⟩; (try first | exact ⟨rfl, _, World.drewN_drewN _ _ _⟩ | exact ⟨rfl, _, Eq.trans (World.drewN_drewN _ _ _) (congrArg (World.drewN _) (Nat.add_assoc _ _ _))⟩))); try go_wp2_with (first | (go_at_call 31; (with_reducible refine (customsref08_Word.calls k1 (rdOf ByteArray.empty l0 x3_1) true _ A4.out).mono ?_); rintro e w' ⟨rfl, ⟨nd, rfl⟩⟩; (try first | exact ⟨rfl, _, World.drewN_drewN _ _ _⟩ | exact ⟨rfl, _, Eq.trans (World.drewN_drewN _ _ _) (congrArg (World.drewN _) (Nat.add_assoc _ _ _))⟩))))
       go_roundg k1
       case measure => have := HK1.out; omega
       case rel => exact ⟨(wrap64 (x3_1 + 1)), rls, H', ⟨by have := HK1.out; omega⟩, by repeat (first | exact Drawn0.refl _ | apply Drawn0.step)⟩
      ·
       rw [if_neg c10] at H
       have c10b0 : (Op.bytesLess ((rdOf ByteArray.empty l0 (ji7)).toList) ((rdOf ByteArray.empty l0 x3_1).toList)) = false := by simpa using c10
       clear c10
       obtain rfl := Option.some.inj H
       have p30001 : 0 ≤ (x3_1 : Int) := odt
       have q30001 : x3_1 < (l0.length : Int) := odt
       obtain ⟨ad30001, e30001, hx30001_0⟩ := Kd.at_string HR0.out x3_1 p30001 q30001
       cases e30001
       replace p30001 := eq_true p30001
       replace q30001 := eq_true q30001
       have p30003 : 0 ≤ ((ji7) : Int) := odt
       have q30003 : (ji7) < (l0.length : Int) := odt
       obtain ⟨ad30003, e30003, hx30003_0⟩ := Kd.at_string HR0.out (ji7) p30003 q30003
       obtain rfl : ad30001 = ad30003 := (by injection e30003)
       replace p30003 := eq_true p30003
       replace q30003 := eq_true q30003
       have p30004 : 0 ≤ (x3_1 : Int) := odt
       have q30004 : x3_1 < (l0.length : Int) := odt
       obtain ⟨ad30004, e30004, hx30004_0⟩ := Kd.at_string HR0.out x3_1 p30004 q30004
       obtain rfl : ad30001 = ad30004 := (by injection e30004)
       replace p30004 := eq_true p30004
       replace q30004 := eq_true q30004
       go_wp2_with (first | (go_at_call 31; (with_reducible refine (customsref08_Word.calls k1 (rdOf ByteArray.empty l0 x3_1) true _ A4.out).mono ?_); rintro e w' ⟨rfl, ⟨nd, rfl⟩⟩; (try first | exact ⟨rfl, _, World.drewN_drewN _ _ _⟩ | exact ⟨rfl, _, Eq.trans (World.drewN_drewN _ _ _) (congrArg (World.drewN _) (Nat.add_assoc _ _ _))⟩)))
       repeat (go_quiet (first | (go_at_call 31; (with_reducible refine (customsref08_Word.calls k1 (rdOf ByteArray.empty l0 x3_1) true _ A4.out).mono ?_); rintro e w' ⟨rfl, ⟨nd, rfl⟩⟩; (try first | exact ⟨rfl, _, World.drewN_drewN _ _ _⟩ | exact ⟨rfl, _, Eq.trans (World.drewN_drewN _ _ _) (congrArg (World.drewN _) (Nat.add_assoc _ _ _))⟩))); try go_wp2_with (first | (go_at_call 31; (with_reducible refine (customsref08_Word.calls k1 (rdOf ByteArray.empty l0 x3_1) true _ A4.out).mono ?_); rintro e w' ⟨rfl, ⟨nd, rfl⟩⟩; (try first | exact ⟨rfl, _, World.drewN_drewN _ _ _⟩ | exact ⟨rfl, _, Eq.trans (World.drewN_drewN _ _ _) (congrArg (World.drewN _) (Nat.add_assoc _ _ _))⟩))))
       go_ret
       exact ⟨by first | rfl | (simp; done) | (simp only [← hji7] <;> (first | rfl | simp)) | (simp [*]; done), by repeat (first | exact Drawn0.refl _ | apply Drawn0.step)⟩
     ·
      rw [if_neg c6] at H
      have c6b0 : decide (0 < x3_1) = false := decide_eq_false c6
      clear c6
      have H' := Aside0.mk H
      clear H
      have p30001 : 0 ≤ (x3_1 : Int) := odt
      have q30001 : x3_1 < (l0.length : Int) := odt
      obtain ⟨ad30001, e30001, hx30001_0⟩ := Kd.at_string HR0.out x3_1 p30001 q30001
      cases e30001
      replace p30001 := eq_true p30001
      replace q30001 := eq_true q30001
      go_wp2_with (first | (go_at_call 31; (with_reducible refine (customsref08_Word.calls k1 (rdOf ByteArray.empty l0 x3_1) true _ A4.out).mono ?_); rintro e w' ⟨rfl, ⟨nd, rfl⟩⟩; (try first | exact ⟨rfl, _, World.drewN_drewN _ _ _⟩ | exact ⟨rfl, _, Eq.trans (World.drewN_drewN _ _ _) (congrArg (World.drewN _) (Nat.add_assoc _ _ _))⟩)))
      repeat (go_quiet (first | (go_at_call 31; (with_reducible refine (customsref08_Word.calls k1 (rdOf ByteArray.empty l0 x3_1) true _ A4.out).mono ?_); rintro e w' ⟨rfl, ⟨nd, rfl⟩⟩; (try first | exact ⟨rfl, _, World.drewN_drewN _ _ _⟩ | exact ⟨rfl, _, Eq.trans (World.drewN_drewN _ _ _) (congrArg (World.drewN _) (Nat.add_assoc _ _ _))⟩))); try go_wp2_with (first | (go_at_call 31; (with_reducible refine (customsref08_Word.calls k1 (rdOf ByteArray.empty l0 x3_1) true _ A4.out).mono ?_); rintro e w' ⟨rfl, ⟨nd, rfl⟩⟩; (try first | exact ⟨rfl, _, World.drewN_drewN _ _ _⟩ | exact ⟨rfl, _, Eq.trans (World.drewN_drewN _ _ _) (congrArg (World.drewN _) (Nat.add_assoc _ _ _))⟩))))
      go_roundg k1
      case measure => have := HK1.out; omega
      case rel => exact ⟨(wrap64 (x3_1 + 1)), rls, H', ⟨by have := HK1.out; omega⟩, by repeat (first | exact Drawn0.refl _ | apply Drawn0.step)⟩
    ·
     replace c5 := Bool.eq_false_iff.mpr c5
     subst c5
     have H1 : (some false) = some r := by rw [if_neg (show ¬ (false = true) by decide)] at H; exact H
     clear H
     have H := H1
     clear H1
     obtain rfl := Option.some.inj H
     have p30001 : 0 ≤ (x3_1 : Int) := odt
     have q30001 : x3_1 < (l0.length : Int) := odt
     obtain ⟨ad30001, e30001, hx30001_0⟩ := Kd.at_string HR0.out x3_1 p30001 q30001
     cases e30001
     replace p30001 := eq_true p30001
     replace q30001 := eq_true q30001
     go_wp2_with (first | (go_at_call 31; (with_reducible refine (customsref08_Word.calls k1 (rdOf ByteArray.empty l0 x3_1) false _ A4.out).mono ?_); rintro e w' ⟨rfl, ⟨nd, rfl⟩⟩; (try first | exact ⟨rfl, _, World.drewN_drewN _ _ _⟩ | exact ⟨rfl, _, Eq.trans (World.drewN_drewN _ _ _) (congrArg (World.drewN _) (Nat.add_assoc _ _ _))⟩)))
     repeat (go_quiet (first | (go_at_call 31; (with_reducible refine (customsref08_Word.calls k1 (rdOf ByteArray.empty l0 x3_1) false _ A4.out).mono ?_); rintro e w' ⟨rfl, ⟨nd, rfl⟩⟩; (try first | exact ⟨rfl, _, World.drewN_drewN _ _ _⟩ | exact ⟨rfl, _, Eq.trans (World.drewN_drewN _ _ _) (congrArg (World.drewN _) (Nat.add_assoc _ _ _))⟩))); try go_wp2_with (first | (go_at_call 31; (with_reducible refine (customsref08_Word.calls k1 (rdOf ByteArray.empty l0 x3_1) false _ A4.out).mono ?_); rintro e w' ⟨rfl, ⟨nd, rfl⟩⟩; (try first | exact ⟨rfl, _, World.drewN_drewN _ _ _⟩ | exact ⟨rfl, _, Eq.trans (World.drewN_drewN _ _ _) (congrArg (World.drewN _) (Nat.add_assoc _ _ _))⟩))))
     go_ret
     exact ⟨by first | rfl | (simp; done) | (simp [*]; done), by repeat (first | exact Drawn0.refl _ | apply Drawn0.step)⟩
   ·
    rw [if_neg c2] at H
    have c2b0 : decide (x3_1 < (l0.length : Int)) = false := decide_eq_false c2
    clear c2
    obtain rfl := Option.some.inj H
    go_wp2
    repeat (go_quiet (fail); try go_wp2)
    go_ret
    exact ⟨by first | rfl | (simp; done) | (simp [*]; done), by repeat (first | exact Drawn0.refl _ | apply Drawn0.step)⟩

end Go.Proofs.YtoolggpfgadjlaaDoor.Z
