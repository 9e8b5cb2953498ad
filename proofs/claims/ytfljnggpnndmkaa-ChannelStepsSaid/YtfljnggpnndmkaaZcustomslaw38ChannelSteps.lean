/- Written by a program of this session: each Go function as a plain Lean function, and that the machine's call does what it says. Conditions: none but those each theorem states. -/
import Derived.Test.YtfljnggpnndmkaaZ0
import Derived.Test.YtfljnggpnndmkaaZcustomsmadeWithin
import Derived.Test.YtfljnggpnndmkaaZchannelTransmit
import Derived.Test.YtfljnggpnndmkaaZchannelDeliver
import Derived.Test.YtfljnggpnndmkaaZcustomslaw38awake
import Derived.Test.YtfljnggpnndmkaaZchannelConfirm
import Derived.Test.YtfljnggpnndmkaaZcustomsref33Transmit
import Derived.Test.YtfljnggpnndmkaaZcustomsref33Deliver
import Derived.Test.YtfljnggpnndmkaaZcustomsref33Confirm
import Derived.Test.YtfljnggpnndmkaaZcustomsref33SameLine
import Derived.Test.YtfljnggpnndmkaaZchannelLose
import Derived.Test.YtfljnggpnndmkaaZchannelRepeat
import Derived.Test.YtfljnggpnndmkaaZchannelForget
import Derived.Test.YtfljnggpnndmkaaZcustomsref33Lose
import Derived.Test.YtfljnggpnndmkaaZcustomsref33Repeat
import Derived.Test.YtfljnggpnndmkaaZcustomsref33Forget
import Derived.Test.YtfljnggpnndmkaaZchannelIdle
import Derived.Test.YtfljnggpnndmkaaZcustomsref33Idle
namespace Go.Proofs.Ytfljnggpnndmkaa.Z
open Go.RowKit Go.Proofs.YtfljnggpnndmkaaW.PrintWords Go.Proofs.YtfljnggpnndmkaaW.PrintLast Go.Proofs.YtfljnggpnndmkaaW.PrintMore
attribute [local go_sem] max2_int min2_int max_two min_two max_three min_three max_four min_four   -- for this text's walks alone
set_option linter.unusedVariables false
set_option linter.unusedSimpArgs false

instance ext_set (a b : World) (p : Addr) (v : Value) [e : Ext a b] : Ext (a.setCell p v) (b.setCell p v) :=
  ⟨⟨e.h.os, e.h.tape, e.h.output, by simpa [World.setCell] using e.h.size, fun k hk => by
    have hk' : k < a.heap.size := by simpa [World.setCell] using hk
    simp only [World.setCell, Array.getElem?_modify, e.h.block k hk']⟩⟩
/-! ### customslaw38_ChannelSteps: function 9 -/
mutual
def customslaw38_ChannelSteps.j3 : Nat → Int → Int → Int → Int → List Int → List Int → Option (Bool)
  | 0, _, _, _, _, _, _ => none
  | k + 1, x1, x2, x3, x9003000, x9003001, x9003002 => (channel_Transmit.f k x9003000 x9003001 x9003002 x1).bind fun bt9020 => ((customsref33_Transmit.f k x9003000 x9003001 x9003002 x1).bind fun bt9029 => (if bt9020.2.2.2 = bt9029.2.2.2 then ((customsref33_SameLine.f k bt9020.1 bt9020.2.1 bt9020.2.2.1 bt9029.1 bt9029.2.1 bt9029.2.2.1).bind fun t9038 => (if t9038 = true then ((channel_Deliver.f k x9003000 x9003001 x9003002 x2 x3).bind fun bt9039 => ((customsref33_Deliver.f k x9003000 x9003001 x9003002 x2 x3).bind fun bt9048 => (if bt9039.2.2.2.2 = bt9048.2.2.2.2 then (if bt9039.2.2.2.1 = bt9048.2.2.2.1 then ((customsref33_SameLine.f k bt9039.1 bt9039.2.1 bt9039.2.2.1 bt9048.1 bt9048.2.1 bt9048.2.2.1).bind fun t9057 => (if t9057 = true then ((channel_Lose.f x9003000 x9003001 x9003002 x2).bind fun bt9058 => ((customsref33_Lose.f x9003000 x9003001 x9003002 x2).bind fun bt9066 => (if bt9058.2.2.2 = bt9066.2.2.2 then ((customsref33_SameLine.f k bt9058.1 bt9058.2.1 bt9058.2.2.1 bt9066.1 bt9066.2.1 bt9066.2.2.1).bind fun t9074 => (if t9074 = true then ((channel_Repeat.f x9003000 x9003001 x9003002 x2).bind fun bt9075 => ((customsref33_Repeat.f k x9003000 x9003001 x9003002 x2).bind fun bt9083 => (if bt9075.2.2.2 = bt9083.2.2.2 then ((customsref33_SameLine.f k bt9075.1 bt9075.2.1 bt9075.2.2.1 bt9083.1 bt9083.2.1 bt9083.2.2.1).bind fun t9091 => (if t9091 = true then ((channel_Confirm.f x9003000 x9003001 x9003002 x2).bind fun bt9092 => ((customsref33_Confirm.f x9003000 x9003001 x9003002 x2).bind fun bt9100 => (if bt9092.2.2.2 = bt9100.2.2.2 then ((customsref33_SameLine.f k bt9092.1 bt9092.2.1 bt9092.2.2.1 bt9100.1 bt9100.2.1 bt9100.2.2.1).bind fun t9108 => (if t9108 = true then ((channel_Forget.f x9003000 x9003001 x9003002 x2).bind fun bt9109 => ((customsref33_Forget.f x9003000 x9003001 x9003002 x2).bind fun bt9117 => (if bt9109.2.2.2 = bt9117.2.2.2 then ((customsref33_SameLine.f k bt9109.1 bt9109.2.1 bt9109.2.2.1 bt9117.1 bt9117.2.1 bt9117.2.2.1).bind fun t9125 => (if t9125 = true then ((channel_Idle.f x9003000 x9003001 x9003002 x1).bind fun t9126 => ((customsref33_Idle.f x9003000 x9003001 x9003002 x1).bind fun t9127 => (if (t9126 == t9127) = true then ((customslaw38_awake.f k).bind fun t9128 => (some t9128)) else (none)))) else (none))) else (none)))) else (none))) else (none)))) else (none))) else (none)))) else (none))) else (none)))) else (none))) else (none)) else (none)))) else (none))) else (none)))
def customslaw38_ChannelSteps.j1 : Nat → Int → Int → Int → Int → List Int → List Int → Int → List Int → Option (Bool)
  | 0, _, _, _, _, _, _, _, _ => none
  | k + 1, x1, x2, x3, x9002000, x9002001, x9002002, x9003000, x9003001 => customslaw38_ChannelSteps.l1 k x1 x2 x3 0 x9002000 x9002001 x9002002 x9003000 x9003001 ([] : List Int)
def customslaw38_ChannelSteps.l1 : Nat → Int → Int → Int → Int → Int → List Int → List Int → Int → List Int → List Int → Option (Bool)
  | 0, _, _, _, _, _, _, _, _, _, _ => none
  | k + 1, x1, x2, x3, x13, x9002000, x9002001, x9002002, x9003000, x9003001, x9003002 => if x13 < (x9002002.length : Int) then (if x13 < 10 then (if 0 ≤ x13 then ((customsmade_Within.f (rd x9002002 x13) 9).bind fun t9010 => (if x9003002.length < 17592186044416 then (customslaw38_ChannelSteps.l1 k x1 x2 x3 (wrap64 (x13 + 1)) x9002000 x9002001 x9002002 x9003000 x9003001 (x9003002 ++ [t9010])) else (none))) else (none)) else ((customsmade_Within.f x1 12).bind fun t9014 => ((customsmade_Within.f x2 11).bind fun t9015 => ((customsmade_Within.f x3 9).bind fun t9016 => (customslaw38_ChannelSteps.j3 k t9014 t9015 t9016 x9003000 x9003001 x9003002))))) else ((customsmade_Within.f x1 12).bind fun t9017 => ((customsmade_Within.f x2 11).bind fun t9018 => ((customsmade_Within.f x3 9).bind fun t9019 => (customslaw38_ChannelSteps.j3 k t9017 t9018 t9019 x9003000 x9003001 x9003002))))
def customslaw38_ChannelSteps.l0 : Nat → Int → Int → Int → Int → Int → List Int → List Int → Int → List Int → Option (Bool)
  | 0, _, _, _, _, _, _, _, _, _ => none
  | k + 1, x1, x2, x3, x12, x9002000, x9002001, x9002002, x9003000, x9003001 => if x12 < (x9002001.length : Int) then (if x12 < 10 then (if 0 ≤ x12 then ((customsmade_Within.f (rd x9002001 x12) 9).bind fun t9005 => (if x9003001.length < 17592186044416 then (customslaw38_ChannelSteps.l0 k x1 x2 x3 (wrap64 (x12 + 1)) x9002000 x9002001 x9002002 x9003000 (x9003001 ++ [wrap64 (1 + t9005)])) else (none))) else (none)) else (customslaw38_ChannelSteps.j1 k x1 x2 x3 x9002000 x9002001 x9002002 x9003000 x9003001)) else (customslaw38_ChannelSteps.j1 k x1 x2 x3 x9002000 x9002001 x9002002 x9003000 x9003001)
end
def customslaw38_ChannelSteps.f (k : Nat) (a0_0 : Int) (l0_1 : List Int) (l0_2 : List Int) (a1 : Int) (a2 : Int) (a3 : Int) (a4 : Bool) : Option (Bool) := if a4 = true then (customslaw38_ChannelSteps.j3 k a1 a2 a3 a0_0 l0_1 l0_2) else ((customsmade_Within.f a0_0 5).bind fun t9003 => (customslaw38_ChannelSteps.l0 k a1 a2 a3 0 a0_0 l0_1 l0_2 t9003 ([] : List Int)))
theorem customslaw38_ChannelSteps.mono_l : ∀ k, (∀ y0 y1 y2 y3 y4 y5, LeO (customslaw38_ChannelSteps.j3 k y0 y1 y2 y3 y4 y5) (customslaw38_ChannelSteps.j3 (k + 1) y0 y1 y2 y3 y4 y5)) ∧ (∀ y0 y1 y2 y3 y4 y5 y6 y7, LeO (customslaw38_ChannelSteps.j1 k y0 y1 y2 y3 y4 y5 y6 y7) (customslaw38_ChannelSteps.j1 (k + 1) y0 y1 y2 y3 y4 y5 y6 y7)) ∧ (∀ y0 y1 y2 y3 y4 y5 y6 y7 y8 y9, LeO (customslaw38_ChannelSteps.l1 k y0 y1 y2 y3 y4 y5 y6 y7 y8 y9) (customslaw38_ChannelSteps.l1 (k + 1) y0 y1 y2 y3 y4 y5 y6 y7 y8 y9)) ∧ (∀ y0 y1 y2 y3 y4 y5 y6 y7 y8, LeO (customslaw38_ChannelSteps.l0 k y0 y1 y2 y3 y4 y5 y6 y7 y8) (customslaw38_ChannelSteps.l0 (k + 1) y0 y1 y2 y3 y4 y5 y6 y7 y8))
  | 0 => ⟨fun _ _ _ _ _ _ r h => by simp [customslaw38_ChannelSteps.j3] at h, fun _ _ _ _ _ _ _ _ r h => by simp [customslaw38_ChannelSteps.j1] at h, fun _ _ _ _ _ _ _ _ _ _ r h => by simp [customslaw38_ChannelSteps.l1] at h, fun _ _ _ _ _ _ _ _ _ r h => by simp [customslaw38_ChannelSteps.l0] at h⟩
  | k + 1 => by
    obtain ⟨ih0, ih1, ih2, ih3⟩ := customslaw38_ChannelSteps.mono_l k
    refine ⟨?_, ?_, ?_, ?_⟩
    · intro y0 y1 y2 y3 y4 y5
      unfold customslaw38_ChannelSteps.j3
      repeat' first
      | (with_reducible exact ih0 _ _ _ _ _ _)
      | (with_reducible exact ih1 _ _ _ _ _ _ _ _)
      | (with_reducible exact ih2 _ _ _ _ _ _ _ _ _ _)
      | (with_reducible exact ih3 _ _ _ _ _ _ _ _ _)
      | (with_reducible exact channel_Deliver.mono _ _ _ _ _ _)
      | (with_reducible exact channel_Transmit.mono _ _ _ _ _)
      | (with_reducible exact customslaw38_awake.mono _)
      | (with_reducible exact customsref33_Deliver.mono _ _ _ _ _ _)
      | (with_reducible exact customsref33_Repeat.mono _ _ _ _ _)
      | (with_reducible exact customsref33_SameLine.mono _ _ _ _ _ _ _)
      | (with_reducible exact customsref33_Transmit.mono _ _ _ _ _)
      | (with_reducible exact LeO.refl _)
      | (with_reducible exact LeO.none _)
      | (with_reducible refine LeO.ite ?_ ?_)
      | (with_reducible refine LeO.bind ?_ (fun _ => ?_))
      | exact ih0 _ _ _ _ _ _
      | exact ih1 _ _ _ _ _ _ _ _
      | exact ih2 _ _ _ _ _ _ _ _ _ _
      | exact ih3 _ _ _ _ _ _ _ _ _
      | exact channel_Deliver.mono _ _ _ _ _ _
      | exact channel_Transmit.mono _ _ _ _ _
      | exact customslaw38_awake.mono _
      | exact customsref33_Deliver.mono _ _ _ _ _ _
      | exact customsref33_Repeat.mono _ _ _ _ _
      | exact customsref33_SameLine.mono _ _ _ _ _ _ _
      | exact customsref33_Transmit.mono _ _ _ _ _
      | exact LeO.none _
      | refine LeO.ite ?_ ?_
      | refine LeO.bind ?_ (fun _ => ?_)
    · intro y0 y1 y2 y3 y4 y5 y6 y7
      unfold customslaw38_ChannelSteps.j1
      repeat' first
      | (with_reducible exact ih0 _ _ _ _ _ _)
      | (with_reducible exact ih1 _ _ _ _ _ _ _ _)
      | (with_reducible exact ih2 _ _ _ _ _ _ _ _ _ _)
      | (with_reducible exact ih3 _ _ _ _ _ _ _ _ _)
      | (with_reducible exact channel_Deliver.mono _ _ _ _ _ _)
      | (with_reducible exact channel_Transmit.mono _ _ _ _ _)
      | (with_reducible exact customslaw38_awake.mono _)
      | (with_reducible exact customsref33_Deliver.mono _ _ _ _ _ _)
      | (with_reducible exact customsref33_Repeat.mono _ _ _ _ _)
      | (with_reducible exact customsref33_SameLine.mono _ _ _ _ _ _ _)
      | (with_reducible exact customsref33_Transmit.mono _ _ _ _ _)
      | (with_reducible exact LeO.refl _)
      | (with_reducible exact LeO.none _)
      | (with_reducible refine LeO.ite ?_ ?_)
      | (with_reducible refine LeO.bind ?_ (fun _ => ?_))
      | exact ih0 _ _ _ _ _ _
      | exact ih1 _ _ _ _ _ _ _ _
      | exact ih2 _ _ _ _ _ _ _ _ _ _
      | exact ih3 _ _ _ _ _ _ _ _ _
      | exact channel_Deliver.mono _ _ _ _ _ _
      | exact channel_Transmit.mono _ _ _ _ _
      | exact customslaw38_awake.mono _
      | exact customsref33_Deliver.mono _ _ _ _ _ _
      | exact customsref33_Repeat.mono _ _ _ _ _
      | exact customsref33_SameLine.mono _ _ _ _ _ _ _
      | exact customsref33_Transmit.mono _ _ _ _ _
      | exact LeO.none _
      | refine LeO.ite ?_ ?_
      | refine LeO.bind ?_ (fun _ => ?_)
    · intro y0 y1 y2 y3 y4 y5 y6 y7 y8 y9
      unfold customslaw38_ChannelSteps.l1
      repeat' first
      | (with_reducible exact ih0 _ _ _ _ _ _)
      | (with_reducible exact ih1 _ _ _ _ _ _ _ _)
      | (with_reducible exact ih2 _ _ _ _ _ _ _ _ _ _)
      | (with_reducible exact ih3 _ _ _ _ _ _ _ _ _)
      | (with_reducible exact channel_Deliver.mono _ _ _ _ _ _)
      | (with_reducible exact channel_Transmit.mono _ _ _ _ _)
      | (with_reducible exact customslaw38_awake.mono _)
      | (with_reducible exact customsref33_Deliver.mono _ _ _ _ _ _)
      | (with_reducible exact customsref33_Repeat.mono _ _ _ _ _)
      | (with_reducible exact customsref33_SameLine.mono _ _ _ _ _ _ _)
      | (with_reducible exact customsref33_Transmit.mono _ _ _ _ _)
      | (with_reducible exact LeO.refl _)
      | (with_reducible exact LeO.none _)
      | (with_reducible refine LeO.ite ?_ ?_)
      | (with_reducible refine LeO.bind ?_ (fun _ => ?_))
      | exact ih0 _ _ _ _ _ _
      | exact ih1 _ _ _ _ _ _ _ _
      | exact ih2 _ _ _ _ _ _ _ _ _ _
      | exact ih3 _ _ _ _ _ _ _ _ _
      | exact channel_Deliver.mono _ _ _ _ _ _
      | exact channel_Transmit.mono _ _ _ _ _
      | exact customslaw38_awake.mono _
      | exact customsref33_Deliver.mono _ _ _ _ _ _
      | exact customsref33_Repeat.mono _ _ _ _ _
      | exact customsref33_SameLine.mono _ _ _ _ _ _ _
      | exact customsref33_Transmit.mono _ _ _ _ _
      | exact LeO.none _
      | refine LeO.ite ?_ ?_
      | refine LeO.bind ?_ (fun _ => ?_)
    · intro y0 y1 y2 y3 y4 y5 y6 y7 y8
      unfold customslaw38_ChannelSteps.l0
      repeat' first
      | (with_reducible exact ih0 _ _ _ _ _ _)
      | (with_reducible exact ih1 _ _ _ _ _ _ _ _)
      | (with_reducible exact ih2 _ _ _ _ _ _ _ _ _ _)
      | (with_reducible exact ih3 _ _ _ _ _ _ _ _ _)
      | (with_reducible exact channel_Deliver.mono _ _ _ _ _ _)
      | (with_reducible exact channel_Transmit.mono _ _ _ _ _)
      | (with_reducible exact customslaw38_awake.mono _)
      | (with_reducible exact customsref33_Deliver.mono _ _ _ _ _ _)
      | (with_reducible exact customsref33_Repeat.mono _ _ _ _ _)
      | (with_reducible exact customsref33_SameLine.mono _ _ _ _ _ _ _)
      | (with_reducible exact customsref33_Transmit.mono _ _ _ _ _)
      | (with_reducible exact LeO.refl _)
      | (with_reducible exact LeO.none _)
      | (with_reducible refine LeO.ite ?_ ?_)
      | (with_reducible refine LeO.bind ?_ (fun _ => ?_))
      | exact ih0 _ _ _ _ _ _
      | exact ih1 _ _ _ _ _ _ _ _
      | exact ih2 _ _ _ _ _ _ _ _ _ _
      | exact ih3 _ _ _ _ _ _ _ _ _
      | exact channel_Deliver.mono _ _ _ _ _ _
      | exact channel_Transmit.mono _ _ _ _ _
      | exact customslaw38_awake.mono _
      | exact customsref33_Deliver.mono _ _ _ _ _ _
      | exact customsref33_Repeat.mono _ _ _ _ _
      | exact customsref33_SameLine.mono _ _ _ _ _ _ _
      | exact customsref33_Transmit.mono _ _ _ _ _
      | exact LeO.none _
      | refine LeO.ite ?_ ?_
      | refine LeO.bind ?_ (fun _ => ?_)
theorem customslaw38_ChannelSteps.mono : ∀ a0 a1 a2 a3 a4 a5 a6 k, LeO (customslaw38_ChannelSteps.f k a0 a1 a2 a3 a4 a5 a6) (customslaw38_ChannelSteps.f (k + 1) a0 a1 a2 a3 a4 a5 a6) := by
  intro a0 a1 a2 a3 a4 a5 a6 k
  obtain ⟨ih0, ih1, ih2, ih3⟩ := customslaw38_ChannelSteps.mono_l k
  unfold customslaw38_ChannelSteps.f
  repeat' first
      | (with_reducible exact ih0 _ _ _ _ _ _)
      | (with_reducible exact ih1 _ _ _ _ _ _ _ _)
      | (with_reducible exact ih2 _ _ _ _ _ _ _ _ _ _)
      | (with_reducible exact ih3 _ _ _ _ _ _ _ _ _)
      | (with_reducible exact channel_Deliver.mono _ _ _ _ _ _)
      | (with_reducible exact channel_Transmit.mono _ _ _ _ _)
      | (with_reducible exact customslaw38_awake.mono _)
      | (with_reducible exact customsref33_Deliver.mono _ _ _ _ _ _)
      | (with_reducible exact customsref33_Repeat.mono _ _ _ _ _)
      | (with_reducible exact customsref33_SameLine.mono _ _ _ _ _ _ _)
      | (with_reducible exact customsref33_Transmit.mono _ _ _ _ _)
      | (with_reducible exact LeO.refl _)
      | (with_reducible exact LeO.none _)
      | (with_reducible refine LeO.ite ?_ ?_)
      | (with_reducible refine LeO.bind ?_ (fun _ => ?_))
      | exact ih0 _ _ _ _ _ _
      | exact ih1 _ _ _ _ _ _ _ _
      | exact ih2 _ _ _ _ _ _ _ _ _ _
      | exact ih3 _ _ _ _ _ _ _ _ _
      | exact channel_Deliver.mono _ _ _ _ _ _
      | exact channel_Transmit.mono _ _ _ _ _
      | exact customslaw38_awake.mono _
      | exact customsref33_Deliver.mono _ _ _ _ _ _
      | exact customsref33_Repeat.mono _ _ _ _ _
      | exact customsref33_SameLine.mono _ _ _ _ _ _ _
      | exact customsref33_Transmit.mono _ _ _ _ _
      | exact LeO.none _
      | refine LeO.ite ?_ ?_
      | refine LeO.bind ?_ (fun _ => ?_)
def customslaw38_ChannelSteps.T7 : Bool × List (List Nat × List Nat) := (true, [([], []), ([0], [0]), ([], []), ([2], [2]), ([], []), ([3, 4], [3, 4]), ([5], [5]), ([6], [6]), ([7], [7]), ([8], [8]), ([1, 9, 7], [1, 9]), ([0, 1, 2, 3, 4, 5, 6, 7, 8, 9, 10], []), ([11, 10, 10, 0, 1, 2, 3, 4, 5, 6, 7, 8, 9, 10], [10, 11])])
def customslaw38_ChannelSteps.B7 : List Nat := [0, 1, 0, 4, 0, 28, 60, 124, 252, 508, 1023, 2047, 4095]
theorem customslaw38_ChannelSteps.tab7 : rtab .any (opsOf Try.f9 7) = customslaw38_ChannelSteps.T7 := by kernel_rfl
theorem customslaw38_ChannelSteps.bits7 : waitsOk customslaw38_ChannelSteps.T7.2 customslaw38_ChannelSteps.B7 = true := by kernel_rfl
def customslaw38_ChannelSteps.T11 : Bool × List (List Nat × List Nat) := (true, [([], []), ([0], [0]), ([], []), ([2], [2]), ([], []), ([3, 4], [3, 4]), ([5], [5]), ([6], [6]), ([7], [7]), ([1, 8, 7], [1, 8]), ([0, 1, 2, 3, 4, 5, 6, 7, 8, 9], []), ([10, 9, 9, 0, 1, 2, 3, 4, 5, 6, 7, 8, 9], [9, 10])])
def customslaw38_ChannelSteps.B11 : List Nat := [0, 1, 0, 4, 0, 28, 60, 124, 252, 511, 1023, 2047]
theorem customslaw38_ChannelSteps.tab11 : rtab .any (opsOf Try.f9 11) = customslaw38_ChannelSteps.T11 := by kernel_rfl
theorem customslaw38_ChannelSteps.bits11 : waitsOk customslaw38_ChannelSteps.T11.2 customslaw38_ChannelSteps.B11 = true := by kernel_rfl
def customslaw38_ChannelSteps.T35 : Bool × List (List Nat × List Nat) := (true, [([], []), ([], []), ([0, 1], [0, 1]), ([2], [2]), ([3], [3]), ([3], [3]), ([4, 5, 3, 3], [3, 4, 5]), ([3, 6], [3, 6]), ([7, 6], [7]), ([8], [8]), ([8], [8]), ([9, 10, 8, 8], [8, 9, 10]), ([8], [8]), ([8], [8]), ([12, 13, 11, 8], [8, 12, 13]), ([11, 14, 8], [8, 11, 14]), ([8, 15], [8, 15]), ([16, 14], [16]), ([17, 17], [17]), ([17, 18], [17, 18]), ([19, 18, 0, 1, 2, 3, 4, 5, 6, 7, 8, 9, 10, 11, 12, 13, 14, 15, 16, 17, 18, 19], [19])])
def customslaw38_ChannelSteps.B35 : List Nat := [0, 0, 3, 7, 15, 15, 63, 127, 255, 511, 511, 2047, 511, 511, 16383, 32767, 65535, 131071, 262143, 524287, 1048575]
theorem customslaw38_ChannelSteps.tab35 : rtab .any (opsOf Try.f9 35) = customslaw38_ChannelSteps.T35 := by kernel_rfl
theorem customslaw38_ChannelSteps.bits35 : waitsOk customslaw38_ChannelSteps.T35.2 customslaw38_ChannelSteps.B35 = true := by kernel_rfl
set_option maxHeartbeats 8000000 in
set_option maxRecDepth 100000 in
theorem customslaw38_ChannelSteps.calls (k : Nat) (a0_0 : Int) (P0_1_ : Nat → Prop) (A0_1 : Option Addr) (c0_1 : Nat) (l0_1 : List Int) (P0_2_ : Nat → Prop) (A0_2 : Option Addr) (c0_2 : Nat) (l0_2 : List Int) (a1 : Int) (a2 : Int) (a3 : Int) (a4 : Bool) (r : Bool) (w : World) (hs0_1 : Kd.V (Kd.int .i64) 3 w w.heap.size (fun k_ => P0_1_ k_) (.slice A0_1 l0_1.length c0_1) l0_1) (hs0_2 : Kd.V (Kd.int .i64) 3 w w.heap.size (fun k_ => P0_2_ k_) (.slice A0_2 l0_2.length c0_2) l0_2) (h : customslaw38_ChannelSteps.f k a0_0 l0_1 l0_2 a1 a2 a3 a4 = some r) :
    Calls Try.prog 9 #[.agg #[.int .i64 a0_0, .slice A0_1 l0_1.length c0_1, .slice A0_2 l0_2.length c0_2], .int .i64 a1, .int .i64 a2, .int .i64 a3, .bool a4] w fun e w' => e = .returned (.bool r) ∧ Below w.heap.size w w' := by
  have hu44 := Try.underlying44
  have HO0_1 := Aside0.mk (show Kd.V (Kd.int .i64) 3 w w.heap.size (fun k_ => ((P0_1_ k_ ∨ P0_2_ k_) ∨ w.heap.size ≤ k_)) (.slice A0_1 l0_1.length c0_1) l0_1 from Kd.V_mono hs0_1 (fun k_ hk => .inl (.inl hk)))
  have HO0_2 := Aside0.mk (show Kd.V (Kd.int .i64) 3 w w.heap.size (fun k_ => ((P0_1_ k_ ∨ P0_2_ k_) ∨ w.heap.size ≤ k_)) (.slice A0_2 l0_2.length c0_2) l0_2 from Kd.V_mono hs0_2 (fun k_ hk => .inl (.inr hk)))
  have HB := Aside0.mk (Below.refl w.heap.size w)
  have H : (if a4 = true then (customslaw38_ChannelSteps.j3 k a1 a2 a3 a0_0 l0_1 l0_2) else ((customsmade_Within.f a0_0 5).bind fun t9003 => (customslaw38_ChannelSteps.l0 k a1 a2 a3 0 a0_0 l0_1 l0_2 t9003 ([] : List Int)))) = some r := h
  clear h
  have HC6 := Aside0.mk H
  clear H
  go_enter Try.func9, Try.ntmps9
  go_upto_if 22 with (first | ((with_reducible refine gate_dst (N := 5) rfl ?_); refine box_event ?hg (N := 5) ?hd (cs := #[.int .i64 a0_0, .slice A0_1 l0_1.length c0_1, .slice A0_2 l0_2.length c0_2]) (t := 44) ?hr ?_; (case hd => rfl); (case hg => rfl); (case hr => first | (go_simp; done) | (go_simp; rfl)); intro gb9001 hg w7 hbox hb; have n3_ := Aside0.mk (hbox); have n4_ := Aside0.mk ((by rw [hg]; exact (below_size (below_ext HB.out)) : w.heap.size ≤ gb9001)); have n5_ := Aside0.mk ((by rw [hg]; exact (below_size (below_ext HB.out)) : w.heap.size ≤ gb9001)); have BK9001 := n3_; have GW9001 := n4_; have GE9001 := n5_; have GI9001 := GE_.mk GE9001.out; replace HO0_1 := awV HO0_1 hb gb9001 hg; replace HO0_2 := awV HO0_2 hb gb9001 hg; replace HB := mvH HB hb; clear n3_ n4_ n5_; clear hb hbox hg; have hcz8_0 : w7.cell? ⟨gb9001, 0, none⟩ = some (.int .i64 a0_0) := (blk_cell BK9001.out 0).trans rfl; have hcz8_1 : w7.cell? ⟨gb9001, 1, none⟩ = some (.slice A0_1 l0_1.length c0_1) := (blk_cell BK9001.out 1).trans rfl; have hcz8_2 : w7.cell? ⟨gb9001, 2, none⟩ = some (.slice A0_2 l0_2.length c0_2) := (blk_cell BK9001.out 2).trans rfl; have hfz8_0 := blk_frozen BK9001.out 0; have hfz8_1 := blk_frozen BK9001.out 1; have hfz8_2 := blk_frozen BK9001.out 2) | ((with_reducible refine gate_dst (N := 11) rfl ?_); refine box_event ?hg (N := 11) ?hd (cs := #[.int .i64 0, .slice none 0 0, .slice none 0 0]) (t := 44) ?hr ?_; (case hd => rfl); (case hg => rfl); (case hr => first | (go_simp; done) | (go_simp; rfl)); intro gb9002 hg w9 hbox hb; have n4_ := Aside0.mk (hbox); have n5_ := Aside0.mk ((by rw [hg]; exact (below_size (below_extB HB.out)) : w.heap.size ≤ gb9002)); have n6_ := Aside0.mk ((by rw [hg]; exact (below_size (below_extB HB.out)) : w.heap.size ≤ gb9002)); have n7_ := Aside0.mk ((by rw [hg]; exact Nat.ne_of_lt (blk_lt (blk_ext BK9001.out)) : gb9001 ≠ gb9002)); have n8_ := Aside0.mk ((by rw [hg]; exact Nat.ne_of_gt (blk_lt (blk_ext BK9001.out)) : gb9002 ≠ gb9001)); have BK9002 := n4_; have GW9002 := n5_; have GE9002 := n6_; have GI9002 := GE_.mk GE9002.out; have NB9001_9002 := n7_; have NI9001_9002 := NE_.mk NB9001_9002.out; have NB9002_9001 := n8_; have NI9002_9001 := NE_.mk NB9002_9001.out; replace HO0_1 := awV HO0_1 hb gb9002 hg; replace HO0_2 := awV HO0_2 hb gb9002 hg; replace BK9001 := mvB BK9001 hb; replace HB := mvH HB hb; clear n4_ n5_ n6_ n7_ n8_; clear hb hbox hg; have hnb10 := NB9002_9001.out; have hnc10 := NB9001_9002.out; have hcz11_0 : w9.cell? ⟨gb9002, 0, none⟩ = some (.int .i64 0) := (blk_cell BK9002.out 0).trans rfl; have hcz11_1 : w9.cell? ⟨gb9002, 1, none⟩ = some (.slice none 0 0) := (blk_cell BK9002.out 1).trans rfl; have hcz11_2 : w9.cell? ⟨gb9002, 2, none⟩ = some (.slice none 0 0) := (blk_cell BK9002.out 2).trans rfl; have hfz11_0 := blk_frozen BK9002.out 0; have hfz11_1 := blk_frozen BK9002.out 1; have hfz11_2 := blk_frozen BK9002.out 2))
  (try simp only [Act.put, List.setIfInBounds_toArray, List.set_cons_zero, List.set_cons_succ])
  go_cut [1, 2, 3] (fun v1 v2 v3 wc => ∃ (kq : Nat) (x1_5 : Int) (x2_5 : Int) (x3_5 : Int) (x9003000_5 : Int) (x9003001_5 : List Int) (x9003002_5 : List Int) (u9003001 : Value) (u9003002 : Value), v1 = .int .i64 x1_5 ∧ v2 = .int .i64 x2_5 ∧ v3 = .int .i64 x3_5 ∧ Aside0 (customslaw38_ChannelSteps.j3 kq x1_5 x2_5 x3_5 x9003000_5 x9003001_5 x9003002_5 = some r) ∧ Aside0 (kq ≤ k) ∧ Aside0 (Kd.V (Kd.int .i64) 3 wc w.heap.size (fun k_ => ((P0_1_ k_ ∨ P0_2_ k_) ∨ w.heap.size ≤ k_) ∧ k_ ≠ gb9001 ∧ k_ ≠ gb9002) (.slice A0_1 l0_1.length c0_1) l0_1) ∧ Aside0 (Kd.V (Kd.int .i64) 3 wc w.heap.size (fun k_ => ((P0_1_ k_ ∨ P0_2_ k_) ∨ w.heap.size ≤ k_) ∧ k_ ≠ gb9001 ∧ k_ ≠ gb9002) (.slice A0_2 l0_2.length c0_2) l0_2) ∧ Aside0 (Kd.V (Kd.int .i64) 3 wc w.heap.size (fun k_ => ((P0_1_ k_ ∨ P0_2_ k_) ∨ w.heap.size ≤ k_) ∧ k_ ≠ gb9001 ∧ k_ ≠ gb9002) u9003001 x9003001_5) ∧ Aside0 (Kd.V (Kd.int .i64) 3 wc w.heap.size (fun k_ => ((P0_1_ k_ ∨ P0_2_ k_) ∨ w.heap.size ≤ k_) ∧ k_ ≠ gb9001 ∧ k_ ≠ gb9002) u9003002 x9003002_5) ∧ Aside0 (wc.heap[gb9001]? = some (.cells #[.int .i64 a0_0, (.slice A0_1 l0_1.length c0_1), (.slice A0_2 l0_2.length c0_2)] 44 (0, 0))) ∧ Aside0 (wc.heap[gb9002]? = some (.cells #[.int .i64 x9003000_5, u9003001, u9003002] 44 (0, 0))) ∧ Aside0 (Below w.heap.size w wc))
  case first =>
    have H := HC6.out
    clear HC6
    by_cases c12 : a4 = true
    · subst c12
      have H1 : (customslaw38_ChannelSteps.j3 k a1 a2 a3 a0_0 l0_1 l0_2) = some r := by rw [if_pos rfl] at H; exact H
      clear H
      have H := H1
      clear H1
      have H' := Aside0.mk H
      clear H
      go_wp2
      go_meet
      case rel => exact ⟨_, (a1), (a2), (a3), (a0_0), (l0_1), (l0_2), (.slice A0_1 l0_1.length c0_1), (.slice A0_2 l0_2.length c0_2), (by first | rfl | (simp; done) | (simp [*]; done)), (by first | rfl | (simp; done) | (simp [*]; done)), (by first | rfl | (simp; done) | (simp [*]; done)), H', ⟨by first | omega | exact Nat.le_refl _⟩, ⟨Kd.V_ext (Kd.V_mono (Kd.V_far (p := ⟨gb9002, 2, none⟩) (Kd.V_far (p := ⟨gb9002, 1, none⟩) (Kd.V_far (p := ⟨gb9002, 0, none⟩) (Kd.V_mono HO0_1.out (fun k_ hk => (⟨hk, hk.2⟩ : _ ∧ k_ ≠ gb9002))) (fun _ hk => hk.2) (.int .i64 a0_0)) (fun _ hk => hk.2) (.slice A0_1 l0_1.length c0_1)) (fun _ hk => hk.2) (.slice A0_2 l0_2.length c0_2)) (fun _ hk => ⟨hk.1.1.1, ⟨hk.1.1.2, hk.1.2⟩⟩))⟩, ⟨Kd.V_ext (Kd.V_mono (Kd.V_far (p := ⟨gb9002, 2, none⟩) (Kd.V_far (p := ⟨gb9002, 1, none⟩) (Kd.V_far (p := ⟨gb9002, 0, none⟩) (Kd.V_mono HO0_2.out (fun k_ hk => (⟨hk, hk.2⟩ : _ ∧ k_ ≠ gb9002))) (fun _ hk => hk.2) (.int .i64 a0_0)) (fun _ hk => hk.2) (.slice A0_1 l0_1.length c0_1)) (fun _ hk => hk.2) (.slice A0_2 l0_2.length c0_2)) (fun _ hk => ⟨hk.1.1.1, ⟨hk.1.1.2, hk.1.2⟩⟩))⟩, ⟨Kd.V_ext (Kd.V_mono (Kd.V_far (p := ⟨gb9002, 2, none⟩) (Kd.V_far (p := ⟨gb9002, 1, none⟩) (Kd.V_far (p := ⟨gb9002, 0, none⟩) (Kd.V_mono HO0_1.out (fun k_ hk => (⟨hk, hk.2⟩ : _ ∧ k_ ≠ gb9002))) (fun _ hk => hk.2) (.int .i64 a0_0)) (fun _ hk => hk.2) (.slice A0_1 l0_1.length c0_1)) (fun _ hk => hk.2) (.slice A0_2 l0_2.length c0_2)) (fun _ hk => ⟨hk.1.1.1, ⟨hk.1.1.2, hk.1.2⟩⟩))⟩, ⟨Kd.V_ext (Kd.V_mono (Kd.V_far (p := ⟨gb9002, 2, none⟩) (Kd.V_far (p := ⟨gb9002, 1, none⟩) (Kd.V_far (p := ⟨gb9002, 0, none⟩) (Kd.V_mono HO0_2.out (fun k_ hk => (⟨hk, hk.2⟩ : _ ∧ k_ ≠ gb9002))) (fun _ hk => hk.2) (.int .i64 a0_0)) (fun _ hk => hk.2) (.slice A0_1 l0_1.length c0_1)) (fun _ hk => hk.2) (.slice A0_2 l0_2.length c0_2)) (fun _ hk => ⟨hk.1.1.1, ⟨hk.1.1.2, hk.1.2⟩⟩))⟩, ⟨blk_extC BK9001.out⟩, ⟨by (with_reducible repeat (first | refine blk_drewN ?_ _ | refine blk_drew ?_ | refine blk_alloc ?_ _)); refine blk_put (cs := #[.int .i64 a0_0, .slice A0_1 l0_1.length c0_1, .slice none 0 0]) ?_ 2 _ rfl; (with_reducible repeat (first | refine blk_drewN ?_ _ | refine blk_drew ?_ | refine blk_alloc ?_ _)); refine blk_put (cs := #[.int .i64 a0_0, .slice none 0 0, .slice none 0 0]) ?_ 1 _ rfl; (with_reducible repeat (first | refine blk_drewN ?_ _ | refine blk_drew ?_ | refine blk_alloc ?_ _)); refine blk_put (cs := #[.int .i64 0, .slice none 0 0, .slice none 0 0]) ?_ 0 _ rfl; exact blk_ext BK9002.out⟩, ⟨below_extB HB.out⟩⟩
    · replace c12 := Bool.eq_false_iff.mpr c12
      subst c12
      have H1 : ((customsmade_Within.f a0_0 5).bind fun t9003 => (customslaw38_ChannelSteps.l0 k a1 a2 a3 0 a0_0 l0_1 l0_2 t9003 ([] : List Int))) = some r := by rw [if_neg (show ¬ (false = true) by decide)] at H; exact H
      clear H
      have H := H1
      clear H1
      replace H := Option.bind_eq_some_iff.mp H
      obtain ⟨t9003, A130, H⟩ := H
      try dsimp only at H
      have A13 := Aside0.mk A130
      clear A130
      have HC14 := Aside0.mk H
      clear H
      have hnb15 := NB9001_9002.out
      have hnc15 := NB9002_9001.out
      have hcz16_0 : w9.cell? ⟨gb9001, 0, none⟩ = some (.int .i64 a0_0) := (blk_cell BK9001.out 0).trans rfl
      have hcz16_1 : w9.cell? ⟨gb9001, 1, none⟩ = some (.slice A0_1 l0_1.length c0_1) := (blk_cell BK9001.out 1).trans rfl
      have hcz16_2 : w9.cell? ⟨gb9001, 2, none⟩ = some (.slice A0_2 l0_2.length c0_2) := (blk_cell BK9001.out 2).trans rfl
      have hfz16_0 := blk_frozen BK9001.out 0
      have hfz16_1 := blk_frozen BK9001.out 1
      have hfz16_2 := blk_frozen BK9001.out 2
      go_upto_block 0 with (first | ((with_reducible refine gate_callee (f := 27) rfl ?_); refine goesL_ (some 25) rfl rfl Try.func27 (by kernel_rfl) rfl #[.int .i64 a0_0, .int .i64 5] rfl (by (try simp only [List.map_toArray, List.map_cons, List.map_nil]); first | done | rfl | (simp only [List.length_drop, List.length_take]; rfl)) ?_; (with_reducible refine (customsmade_Within.calls a0_0 5 t9003 _ A13.out).mono ?_); rintro e w' ⟨rfl, ⟨nd, rfl⟩⟩; refine ⟨_, rfl, ?_⟩; have hcz17_0 : w9.cell? ⟨gb9002, 0, none⟩ = some (.int .i64 0) := (blk_cell BK9002.out 0).trans rfl; have hcz17_1 : w9.cell? ⟨gb9002, 1, none⟩ = some (.slice none 0 0) := (blk_cell BK9002.out 1).trans rfl; have hcz17_2 : w9.cell? ⟨gb9002, 2, none⟩ = some (.slice none 0 0) := (blk_cell BK9002.out 2).trans rfl; have hfz17_0 := blk_frozen BK9002.out 0; have hfz17_1 := blk_frozen BK9002.out 1; have hfz17_2 := blk_frozen BK9002.out 2))
      (try simp only [Act.put, List.setIfInBounds_toArray, List.set_cons_zero, List.set_cons_succ])
      go_cut [] (fun wc => ∃ (kq : Nat) (x9003001_13 : List Int) (u9003001 : Value), Aside0 (customslaw38_ChannelSteps.j1 kq a1 a2 a3 a0_0 l0_1 l0_2 t9003 x9003001_13 = some r) ∧ Aside0 (kq ≤ k) ∧ Aside0 (Kd.V (Kd.int .i64) 3 wc w.heap.size (fun k_ => ((P0_1_ k_ ∨ P0_2_ k_) ∨ w.heap.size ≤ k_) ∧ some k_ ≠ (u9003001 : Value).ownBlock ∧ k_ ≠ gb9001 ∧ k_ ≠ gb9002) (.slice A0_1 l0_1.length c0_1) l0_1) ∧ Aside0 (Kd.V (Kd.int .i64) 3 wc w.heap.size (fun k_ => ((P0_1_ k_ ∨ P0_2_ k_) ∨ w.heap.size ≤ k_) ∧ some k_ ≠ (u9003001 : Value).ownBlock ∧ k_ ≠ gb9001 ∧ k_ ≠ gb9002) (.slice A0_2 l0_2.length c0_2) l0_2) ∧ Aside0 (Kd.R (Kd.int .i64) 3 wc w.heap.size (fun k_ => (w.heap.size ≤ k_)) u9003001 x9003001_13) ∧ Aside0 (wc.heap[gb9001]? = some (.cells #[.int .i64 a0_0, (.slice A0_1 l0_1.length c0_1), (.slice A0_2 l0_2.length c0_2)] 44 (0, 0))) ∧ Aside0 (wc.heap[gb9002]? = some (.cells #[.int .i64 t9003, u9003001, (.slice none 0 0)] 44 (0, 0))) ∧ Aside0 (Below w.heap.size w wc))
      case first =>
        have H := HC14.out
        clear HC14
        have H' := Aside0.mk H
        clear H
        go_wp2
        go_loopg [12] k (fun kq v12 w' => ∃ (x12_1 : Int) (x9003001_1 : List Int) (u9003001 : Value), v12 = .int .i64 x12_1 ∧ Aside0 (customslaw38_ChannelSteps.l0 kq a1 a2 a3 x12_1 a0_0 l0_1 l0_2 t9003 x9003001_1 = some r) ∧ Aside0 (kq ≤ k) ∧ Aside0 (Kd.V (Kd.int .i64) 3 w' w.heap.size (fun k_ => ((P0_1_ k_ ∨ P0_2_ k_) ∨ w.heap.size ≤ k_) ∧ some k_ ≠ (u9003001 : Value).ownBlock ∧ k_ ≠ gb9001 ∧ k_ ≠ gb9002) (.slice A0_1 l0_1.length c0_1) l0_1) ∧ Aside0 (Kd.V (Kd.int .i64) 3 w' w.heap.size (fun k_ => ((P0_1_ k_ ∨ P0_2_ k_) ∨ w.heap.size ≤ k_) ∧ some k_ ≠ (u9003001 : Value).ownBlock ∧ k_ ≠ gb9001 ∧ k_ ≠ gb9002) (.slice A0_2 l0_2.length c0_2) l0_2) ∧ Aside0 (Kd.R (Kd.int .i64) 3 w' w.heap.size (fun k_ => (w.heap.size ≤ k_)) u9003001 x9003001_1) ∧ Aside0 (w'.heap[gb9001]? = some (.cells #[.int .i64 a0_0, (.slice A0_1 l0_1.length c0_1), (.slice A0_2 l0_2.length c0_2)] 44 (0, 0))) ∧ Aside0 (w'.heap[gb9002]? = some (.cells #[.int .i64 t9003, u9003001, (.slice none 0 0)] 44 (0, 0))) ∧ Aside0 (Below w.heap.size w w'))
        case atStart => exact ⟨(0), (([] : List Int)), (.slice none 0 0), (by first | rfl | (simp; done) | (simp [*]; done)), H', ⟨Nat.le_refl _⟩, ⟨Kd.V_ext (Kd.V_mono (Kd.V_far (p := ⟨gb9002, 2, none⟩) (Kd.V_far (p := ⟨gb9002, 1, none⟩) (Kd.V_far (p := ⟨gb9002, 0, none⟩) (Kd.V_far (p := ⟨gb9002, 2, none⟩) (Kd.V_far (p := ⟨gb9002, 1, none⟩) (Kd.V_far (p := ⟨gb9002, 0, none⟩) (Kd.V_mono HO0_1.out (fun k_ hk => (⟨hk, hk.2⟩ : _ ∧ k_ ≠ gb9002))) (fun _ hk => hk.2) (.int .i64 a0_0)) (fun _ hk => hk.2) (.slice A0_1 l0_1.length c0_1)) (fun _ hk => hk.2) (.slice A0_2 l0_2.length c0_2)) (fun _ hk => hk.2) (.int .i64 t9003)) (fun _ hk => hk.2) (.slice none 0 0)) (fun _ hk => hk.2) (.slice none 0 0)) (fun _ hk => ⟨hk.1.1.1, ⟨(by simp [Value.ownBlock]), ⟨hk.1.1.2, hk.1.2⟩⟩⟩))⟩, ⟨Kd.V_ext (Kd.V_mono (Kd.V_far (p := ⟨gb9002, 2, none⟩) (Kd.V_far (p := ⟨gb9002, 1, none⟩) (Kd.V_far (p := ⟨gb9002, 0, none⟩) (Kd.V_far (p := ⟨gb9002, 2, none⟩) (Kd.V_far (p := ⟨gb9002, 1, none⟩) (Kd.V_far (p := ⟨gb9002, 0, none⟩) (Kd.V_mono HO0_2.out (fun k_ hk => (⟨hk, hk.2⟩ : _ ∧ k_ ≠ gb9002))) (fun _ hk => hk.2) (.int .i64 a0_0)) (fun _ hk => hk.2) (.slice A0_1 l0_1.length c0_1)) (fun _ hk => hk.2) (.slice A0_2 l0_2.length c0_2)) (fun _ hk => hk.2) (.int .i64 t9003)) (fun _ hk => hk.2) (.slice none 0 0)) (fun _ hk => hk.2) (.slice none 0 0)) (fun _ hk => ⟨hk.1.1.1, ⟨(by simp [Value.ownBlock]), ⟨hk.1.1.2, hk.1.2⟩⟩⟩))⟩, ⟨by first | exact Kd.R_nil _ _ _ _ _ | exact Kd.N_nil _ _ _ _ _ | exact Kd.V_nil _ _ _ _ _ | exact Kd.Q_nil _ _ _ _ _ | exact Kd.S_nil _ _ _ _ _⟩, ⟨blk_extC BK9001.out⟩, ⟨by (with_reducible repeat (first | refine blk_drewN ?_ _ | refine blk_drew ?_ | refine blk_alloc ?_ _)); refine blk_put (cs := #[.int .i64 t9003, .slice none 0 0, .slice A0_2 l0_2.length c0_2]) ?_ 2 _ rfl; (with_reducible repeat (first | refine blk_drewN ?_ _ | refine blk_drew ?_ | refine blk_alloc ?_ _)); refine blk_put (cs := #[.int .i64 t9003, .slice A0_1 l0_1.length c0_1, .slice A0_2 l0_2.length c0_2]) ?_ 1 _ rfl; (with_reducible repeat (first | refine blk_drewN ?_ _ | refine blk_drew ?_ | refine blk_alloc ?_ _)); refine blk_put (cs := #[.int .i64 a0_0, .slice A0_1 l0_1.length c0_1, .slice A0_2 l0_2.length c0_2]) ?_ 0 _ rfl; (with_reducible repeat (first | refine blk_drewN ?_ _ | refine blk_drew ?_ | refine blk_alloc ?_ _)); refine blk_put (cs := #[.int .i64 a0_0, .slice A0_1 l0_1.length c0_1, .slice none 0 0]) ?_ 2 _ rfl; (with_reducible repeat (first | refine blk_drewN ?_ _ | refine blk_drew ?_ | refine blk_alloc ?_ _)); refine blk_put (cs := #[.int .i64 a0_0, .slice none 0 0, .slice none 0 0]) ?_ 1 _ rfl; (with_reducible repeat (first | refine blk_drewN ?_ _ | refine blk_drew ?_ | refine blk_alloc ?_ _)); refine blk_put (cs := #[.int .i64 0, .slice none 0 0, .slice none 0 0]) ?_ 0 _ rfl; exact blk_ext BK9002.out⟩, ⟨below_extB HB.out⟩⟩
        case round =>
          clear H'
          try clear c1
          try clear c2
          try clear p2
          try clear c9
          try clear c10
          try clear c12
          try clear c15
          try clear hcz11_0
          try clear hcz11_1
          try clear hcz11_2
          try clear hcz16_0
          try clear hcz16_1
          try clear hcz16_2
          try clear hcz17_0
          try clear hcz17_1
          try clear hcz17_2
          try clear hcz8_0
          try clear hcz8_1
          try clear hcz8_2
          try clear hfz11_0
          try clear hfz11_1
          try clear hfz11_2
          try clear hfz16_0
          try clear hfz16_1
          try clear hfz16_2
          try clear hfz17_0
          try clear hfz17_1
          try clear hfz17_2
          try clear hfz8_0
          try clear hfz8_1
          try clear hfz8_2
          obtain ⟨x12_1, x9003001_1, u9003001, rfl, HA, HK1, HO_9002001, HO_9002002, HO_9003001, BK9001, BK9002, HB⟩ := hrel
          cases gk with
          | zero => exact absurd HA.out (by simp [customslaw38_ChannelSteps.l0])
          | succ k1 =>
            have H := HA.out
            clear HA
            simp only [customslaw38_ChannelSteps.l0] at H
            by_cases c18 : x12_1 < (l0_1.length : Int)
            · rw [if_pos c18] at H
              have c18b0 : decide (x12_1 < (l0_1.length : Int)) = true := decide_eq_true c18
              clear c18
              (first | rw [c18b0] | (simp only [i64_w, i32_w]; rw [c18b0]) | skip)
              by_cases c19 : x12_1 < 10
              · rw [if_pos c19] at H
                have c19b0 : decide (x12_1 < 10) = true := decide_eq_true c19
                clear c19
                replace H := if_some H; obtain ⟨c20, H⟩ := H
                have c20b0 : decide (0 ≤ x12_1) = true := decide_eq_true c20
                clear c20
                replace H := Option.bind_eq_some_iff.mp H
                obtain ⟨t9005, A210, H⟩ := H
                try dsimp only at H
                have A21 := Aside0.mk A210
                clear A210
                replace H := if_some H; obtain ⟨c22, H⟩ := H
                have LMc22 := Aside0.mk c22
                clear c22
                obtain ⟨y9006, hy9006⟩ : ∃ y_ : List Int, y_ = (x9003001_1 ++ [wrap64 (1 + t9005)]) := ⟨_, rfl⟩
                replace H : (customslaw38_ChannelSteps.l0 k1 a1 a2 a3 (wrap64 (x12_1 + 1)) a0_0 l0_1 l0_2 t9003 y9006) = some r := by first | (rw [hy9006]; with_reducible exact H) | (have H2_ := (Option.bind_some _ _).symm.trans H; rw [hy9006]; with_reducible exact H2_) | (have H2_ := (Option.bind_some _ _).symm.trans H; with_reducible exact H2_) | with_reducible exact H | (rw [hy9006]; exact H) | exact H
                have Ny9006 := Aside0.mk hy9006
                clear hy9006
                have H' := Aside0.mk H
                clear H
                have hnb23 := NB9001_9002.out
                have hnc23 := NB9002_9001.out
                have hcz24_0 : wr.cell? ⟨gb9001, 0, none⟩ = some (.int .i64 a0_0) := (blk_cell BK9001.out 0).trans rfl
                have hcz24_1 : wr.cell? ⟨gb9001, 1, none⟩ = some (.slice A0_1 l0_1.length c0_1) := (blk_cell BK9001.out 1).trans rfl
                have hcz24_2 : wr.cell? ⟨gb9001, 2, none⟩ = some (.slice A0_2 l0_2.length c0_2) := (blk_cell BK9001.out 2).trans rfl
                have hfz24_0 := blk_frozen BK9001.out 0
                have hfz24_1 := blk_frozen BK9001.out 1
                have hfz24_2 := blk_frozen BK9001.out 2
                try go_wp2
                have n0_ := Aside0.mk (Kd.V_drew HO_9002001.out)
                have n1_ := Aside0.mk (Kd.V_drew HO_9002002.out)
                have n2_ := Aside0.mk (Kd.R_drew HO_9003001.out)
                have n3_ := Aside0.mk (blk_drew BK9001.out)
                have n4_ := Aside0.mk (blk_drew BK9002.out)
                have n5_ := Aside0.mk (below_drew1 HB.out)
                clear HO_9002001
                clear HO_9002002
                clear HO_9003001
                clear BK9001
                clear BK9002
                clear HB
                have HO_9002001 := n0_
                have HO_9002002 := n1_
                have HO_9003001 := n2_
                have BK9001 := n3_
                have BK9002 := n4_
                have HB := n5_
                clear n0_ n1_ n2_ n3_ n4_ n5_
                have p9004 : 0 ≤ (x12_1 : Int) := of_decide_eq_true (by first | (with_reducible assumption) | assumption)
                have q9004 : x12_1 < (l0_1.length : Int) := of_decide_eq_true (by first | (with_reducible assumption) | assumption)
                obtain ⟨ad9004, e9004, hx9004_0⟩ := Kd.at_int (Kd.V_reads' HO_9002001.out).2.2 x12_1 p9004 q9004
                cases e9004
                replace p9004 := eq_true p9004
                replace q9004 := eq_true q9004
                refine start_ (n := 13) (S := fun w' => w'.cell? ⟨gb9002, 0, none⟩ = some (.int .i64 t9003) ∧ w'.cell? ⟨gb9002, 1, none⟩ = some (u9003001) ∧ w'.cell? ⟨gb9002, 2, none⟩ = some (.slice none 0 0) ∧ w'.cell? ⟨gb9001, 0, none⟩ = some (.int .i64 a0_0) ∧ w'.cell? ⟨gb9001, 1, none⟩ = some (.slice (some ad9004) l0_1.length c0_1) ∧ w'.cell? ⟨gb9001, 2, none⟩ = some (.slice A0_2 l0_2.length c0_2) ∧ w'.cell? (ad9004.add (x12_1).toNat) = some (.int .i64 (rd l0_1 x12_1))) (ds := [10, 12]) #[false, false, false, false, false, false, false, false, false, false, false, false, false] (by kernel_rfl) rfl rfl ⟨(blk_cell BK9002.out 0).trans rfl, (blk_cell BK9002.out 1).trans rfl, (blk_cell BK9002.out 2).trans rfl, (blk_cell BK9001.out 0).trans rfl, (blk_cell BK9001.out 1).trans rfl, (blk_cell BK9001.out 2).trans rfl, hx9004_0⟩ (fun hHeld => ?_); refine with_tabW customslaw38_ChannelSteps.tab7 customslaw38_ChannelSteps.bits7 (fun HT_ HW_ => ?_)
                generalize wr.drew = w25 at HO_9002001 HO_9002002 HO_9003001 BK9001 BK9002 HB hx9004_0 hHeld ⊢
                refine pure_ (i := 0) (N := some 38) (v := ?_) (a' := ?_) #[true, false, false, false, false, false, false, false, false, false, false, false, false] rfl rfl (any_of HT_.out (by kernel_rfl)) (fun _ _ _ h => h) (Or.inl ⟨by rfl, ?_⟩) ?_ ?_
                rotate_left
                · intro w'
                  go_simp
                  with_reducible rfl
                rotate_left
                · simp only [Act.put, List.setIfInBounds_toArray, List.set_cons_zero, List.set_cons_succ, i64_w, i32_w]
                  rfl
                refine pure_ (i := 2) (N := some 40) (v := ?_) (a' := ?_) #[true, false, true, false, false, false, false, false, false, false, false, false, false] rfl rfl (any_of HT_.out (by kernel_rfl)) (fun _ _ _ h => h) (Or.inl ⟨by rfl, ?_⟩) ?_ ?_
                rotate_left
                · intro w'
                  go_simp
                  with_reducible rfl
                rotate_left
                · simp only [Act.put, List.setIfInBounds_toArray, List.set_cons_zero, List.set_cons_succ, i64_w, i32_w]
                  rfl
                refine pure_ (i := 4) (N := some 42) (v := ?_) (a' := ?_) #[true, false, true, false, true, false, false, false, false, false, false, false, false] rfl rfl (any_of HT_.out (by kernel_rfl)) (fun _ _ _ h => h) (Or.inl ⟨by rfl, ?_⟩) ?_ ?_
                rotate_left
                · intro w'
                  go_simp
                  with_reducible rfl
                rotate_left
                · simp only [Act.put, List.setIfInBounds_toArray, List.set_cons_zero, List.set_cons_succ, i64_w, i32_w]
                  rfl
                refine take_ (i := 1) (N := some 39) (v := ?_) (a' := ?_) #[true, true, true, false, true, false, false, false, false, false, false, false, false] rfl rfl (take_ofW HT_.out HW_.out (by kernel_rfl)) (fun _ _ _ h => h) (Or.inl ⟨by rfl, ?_⟩) hHeld ?_ ?_
                rotate_left
                · rintro w' ⟨s0, s1, s2, s3, s4, s5, s6⟩
                  go_simp
                  with_reducible rfl
                rotate_left
                · simp only [Act.put, List.setIfInBounds_toArray, List.set_cons_zero, List.set_cons_succ, i64_w, i32_w]
                  rfl
                refine take_ (i := 3) (N := some 41) (v := ?_) (a' := ?_) #[true, true, true, true, true, false, false, false, false, false, false, false, false] rfl rfl (take_ofW HT_.out HW_.out (by kernel_rfl)) (fun _ _ _ h => h) (Or.inl ⟨by rfl, ?_⟩) hHeld ?_ ?_
                rotate_left
                · rintro w' ⟨s0, s1, s2, s3, s4, s5, s6⟩
                  go_simp
                  with_reducible rfl
                rotate_left
                · simp only [Act.put, List.setIfInBounds_toArray, List.set_cons_zero, List.set_cons_succ, i64_w, i32_w]
                  rfl
                refine pure_ (i := 5) (N := some 43) (v := ?_) (a' := ?_) #[true, true, true, true, true, true, false, false, false, false, false, false, false] rfl rfl (any_of HT_.out (by kernel_rfl)) (fun _ _ _ h => h) (Or.inl ⟨by rfl, ?_⟩) ?_ ?_
                rotate_left
                · intro w'
                  go_simp
                  with_reducible rfl
                rotate_left
                · simp only [Act.put, List.setIfInBounds_toArray, List.set_cons_zero, List.set_cons_succ, i64_w, i32_w]
                  rfl
                refine take_ (i := 6) (N := some 44) (v := ?_) (a' := ?_) #[true, true, true, true, true, true, true, false, false, false, false, false, false] rfl rfl (take_ofW HT_.out HW_.out (by kernel_rfl)) (fun _ _ _ h => h) (Or.inl ⟨by rfl, ?_⟩) hHeld ?_ ?_
                rotate_left
                · rintro w' ⟨s0, s1, s2, s3, s4, s5, s6⟩
                  go_simp
                  with_reducible rfl
                rotate_left
                · simp only [Act.put, List.setIfInBounds_toArray, List.set_cons_zero, List.set_cons_succ, i64_w, i32_w]
                  rfl
                refine one_ (i := 7) (N := some 45) #[true, true, true, true, true, true, true, true, false, false, false, false, false] rfl rfl (one_of HT_.out (by kernel_rfl)) (by decide) (fun K hK => ?_)
                refine goes_ Try.func27 (by kernel_rfl) rfl #[.int .i64 (rd l0_1 x12_1), .int .i64 9] (by rfl) rfl rfl (by (try simp only [List.map_toArray, List.map_cons, List.map_nil]); first | done | rfl | (simp only [List.length_drop, List.length_take]; rfl)) ?_
                with_reducible refine (customsmade_Within.calls (rd l0_1 x12_1) 9 t9005 _ A21.out).mono ?_
                rintro e w' ⟨rfl, ⟨nd, rfl⟩⟩
                refine ⟨_, rfl, ?_⟩
                refine hK.out _ _ ⟨(blk_cell BK9002.out 0).trans rfl, (blk_cell BK9002.out 1).trans rfl, (blk_cell BK9002.out 2).trans rfl, (blk_cell BK9001.out 0).trans rfl, (blk_cell BK9001.out 1).trans rfl, (blk_cell BK9001.out 2).trans rfl, hHeld.2.2.2.2.2.2⟩ (fun hHeld => ?_)
                clear hK K
                refine norm_ (a' := ?_) ?_ ?_
                rotate_left
                · show Act.put _ (some 45) _ = _
                  simp only [Act.put, List.setIfInBounds_toArray, List.set_cons_zero, List.set_cons_succ, i64_w, i32_w]
                  rfl
                refine pure_ (i := 8) (N := some 46) (v := ?_) (a' := ?_) #[true, true, true, true, true, true, true, true, true, false, false, false, false] rfl rfl (any_of HT_.out (by kernel_rfl)) (fun _ _ _ h => h) (Or.inl ⟨by rfl, ?_⟩) ?_ ?_
                rotate_left
                · intro w'
                  go_simp
                  with_reducible rfl
                rotate_left
                · simp only [Act.put, List.setIfInBounds_toArray, List.set_cons_zero, List.set_cons_succ, i64_w, i32_w]
                  rfl
                refine one_ (i := 9) (N := some 47) #[true, true, true, true, true, true, true, true, true, true, false, false, false] rfl rfl (one_of HT_.out (by kernel_rfl)) (by decide) (fun K hK => ?_)
                refine value_ (w1 := ?_) (v := ?_) (by rfl) rfl ?_ ?_
                rotate_left 2
                · go_simp
                  constructor
                  · rfl
                  · rfl
                refine hK.out _ _ ⟨(blk_cell (blk_alloc BK9002.out _) 0).trans rfl, (blk_cell (blk_alloc BK9002.out _) 1).trans rfl, (blk_cell (blk_alloc BK9002.out _) 2).trans rfl, (blk_cell (blk_alloc BK9001.out _) 0).trans rfl, (blk_cell (blk_alloc BK9001.out _) 1).trans rfl, (blk_cell (blk_alloc BK9001.out _) 2).trans rfl, (World.cell?_alloc_lt _ _ _ (World.block_lt_of_cell? _ _ (hHeld.2.2.2.2.2.2))).trans (hHeld.2.2.2.2.2.2)⟩ (fun hHeld => ?_)
                clear hK K
                refine norm_ (a' := ?_) ?_ ?_
                rotate_left
                · show Act.put _ (some 47) _ = _
                  simp only [Act.put, List.setIfInBounds_toArray, List.set_cons_zero, List.set_cons_succ, i64_w, i32_w]
                  rfl
                refine last_ (i := 10) (N := some 48) #[true, true, true, true, true, true, true, true, true, true, true, false, false] rfl rfl (one_of HT_.out (by kernel_rfl)) (by decide) (fun K hK => ?_)
                refine Kd.R_append_step (Kd.int .i64) (w0 := w) w.heap.size (by rfl) (.tmp 39) (.tmp 47) 42 3 (.int .i64 0) 8 rfl Try.underlying42 info3 rfl (by decide) (by omega) u9003001 x9003001_1 (wrap64 (1 + t9005)) [.int .i64 (wrap64 (1 + t9005))] (fun k_ => (w.heap.size ≤ k_)) (fun _ => False) rfl rfl ?aP (fun _ hk => hk.elim) ?aF ?aO ?aB ?aS ?aL ?_
                (case aP => exact rfl)
                (case aB => exact (below_extB HB.out))
                (case aF => exact (fun k_ hk => (Nat.le_trans (below_size (below_extB HB.out)) hk)))
                (case aO => exact (Kd.R_ext HO_9003001.out))
                (case aS => exact (below_size (below_extB HB.out)))
                (case aL => have := LMc22.out; omega)
                intro v9007 w26 ho hb hg hat
                rw [← Ny9006.out] at ho
                have n0_ := Aside0.mk (Kd.V_afterv (ok := (fun k_ => ((P0_1_ k_ ∨ P0_2_ k_) ∨ w.heap.size ≤ k_) ∧ k_ ≠ gb9001 ∧ k_ ≠ gb9002)) (Kd.V_ext (Kd.V_mono HO_9002001.out (fun _ hk => ⟨⟨hk.1, ⟨hk.2.2.1, hk.2.2.2⟩⟩, hk.2.1⟩))) hg hat)
                have n1_ := Aside0.mk (Kd.V_afterv (ok := (fun k_ => ((P0_1_ k_ ∨ P0_2_ k_) ∨ w.heap.size ≤ k_) ∧ k_ ≠ gb9001 ∧ k_ ≠ gb9002)) (Kd.V_ext (Kd.V_mono HO_9002002.out (fun _ hk => ⟨⟨hk.1, ⟨hk.2.2.1, hk.2.2.2⟩⟩, hk.2.1⟩))) hg hat)
                have n2_ := Aside0.mk (blk_grown (g := gb9001) (o := .cells #[.int .i64 a0_0, .slice (some ad9004) l0_1.length c0_1, .slice A0_2 l0_2.length c0_2] 44 (0, 0)) (blk_ext BK9001.out) hg (Kd.R_ne HO_9003001.out BK9001.out (by decide)))
                have n3_ := Aside0.mk (blk_grown (g := gb9002) (o := .cells #[.int .i64 t9003, u9003001, .slice none 0 0] 44 (0, 0)) (blk_ext BK9002.out) hg (Kd.R_ne HO_9003001.out BK9002.out (by decide)))
                have n4_ := Aside0.mk (hb)
                have n5_ := Aside0.mk (ho)
                clear HO_9002001
                clear HO_9002002
                clear BK9001
                clear BK9002
                clear HB
                clear HO_9003001
                have HO_9002001 := n0_
                have HO_9002002 := n1_
                have BK9001 := n2_
                have BK9002 := n3_
                have HB := n4_
                have HO9008 := n5_
                clear n0_ n1_ n2_ n3_ n4_ n5_
                clear ho hb hg hat
                obtain ⟨Ao27, co27, eo27⟩ := Kd.R_slice HO9008.out
                (first | subst eo27 | (injection eo27 with f1_ f2_ f3_; have f4_ := f1_.symm; have f5_ := f3_.symm; clear f1_ f2_ f3_; subst f4_; subst f5_))
                refine hK.out _ _ ?_
                clear hK K
                refine norm_ (a' := ?_) ?_ ?_
                rotate_left
                · show Act.put _ (some 48) _ = _
                  simp only [Act.put, List.setIfInBounds_toArray, List.set_cons_zero, List.set_cons_succ, i64_w, i32_w]
                  rfl
                refine pure_ (i := 11) (N := some 49) (v := ?_) (a' := ?_) #[true, true, true, true, true, true, true, true, true, true, true, true, false] rfl rfl (any_of HT_.out (by kernel_rfl)) (fun _ _ _ h => h) (Or.inl ⟨by rfl, ?_⟩) ?_ ?_
                rotate_left
                · intro w'
                  go_simp
                  with_reducible rfl
                rotate_left
                · simp only [Act.put, List.setIfInBounds_toArray, List.set_cons_zero, List.set_cons_succ, i64_w, i32_w]
                  rfl
                refine last_ (i := 12) (N := none) #[true, true, true, true, true, true, true, true, true, true, true, true, true] rfl rfl (one_of HT_.out (by kernel_rfl)) (by decide) (fun K hK => ?_)
                have hs28 : w26.cell? ⟨gb9002, 1, none⟩ = some (u9003001) := (blk_cell BK9002.out 1).trans rfl
                have hfs28 := blk_frozen BK9002.out 1
                have hns28_0 := NB9001_9002.out
                have hms28_0 := NB9002_9001.out
                refine skip_ (w1 := ?_) (by rfl) rfl ?_ ?_
                rotate_left
                · go_simp
                  rfl
                refine hK.out _ _ ?_
                clear hK K
                refine done_ (done_of HT_.out (by kernel_rfl)) ?_
                try go_wp2
                go_roundg k1
                case measure => have := HK1.out; omega
                case rel => exact ⟨(wrap64 (x12_1 + 1)), (y9006), (.slice Ao27 y9006.length co27), (by first | rfl | (simp; done) | (simp [*]; done)), H', ⟨by have := HK1.out; omega⟩, ⟨Kd.V_ext (Kd.V_mono (Kd.V_far (p := ⟨gb9002, 1, none⟩) (Kd.V_mono HO_9002001.out (fun k_ hk => (⟨hk, hk.1.2.2⟩ : _ ∧ k_ ≠ gb9002))) (fun _ hk => hk.2) (.slice Ao27 y9006.length co27)) (fun _ hk => ⟨hk.1.1.1, ⟨hk.1.2, ⟨hk.1.1.2.1, hk.1.1.2.2⟩⟩⟩))⟩, ⟨Kd.V_ext (Kd.V_mono (Kd.V_far (p := ⟨gb9002, 1, none⟩) (Kd.V_mono HO_9002002.out (fun k_ hk => (⟨hk, hk.1.2.2⟩ : _ ∧ k_ ≠ gb9002))) (fun _ hk => hk.2) (.slice Ao27 y9006.length co27)) (fun _ hk => ⟨hk.1.1.1, ⟨hk.1.2, ⟨hk.1.1.2.1, hk.1.1.2.2⟩⟩⟩))⟩, ⟨Kd.R_ext (Kd.R_mono (Kd.R_far (p := ⟨gb9002, 1, none⟩) (Kd.R_types HO9008.out BK9002.out (by decide)) (fun _ hk => hk.2) (.slice Ao27 y9006.length co27)) (fun _ hk => hk.1))⟩, ⟨blk_extC BK9001.out⟩, ⟨by (with_reducible repeat (first | refine blk_drewN ?_ _ | refine blk_drew ?_ | refine blk_alloc ?_ _)); refine blk_put (cs := #[.int .i64 t9003, u9003001, .slice none 0 0]) ?_ 1 _ rfl; exact blk_ext BK9002.out⟩, ⟨below_extB HB.out⟩⟩
              · rw [if_neg c19] at H
                have c19b0 : decide (x12_1 < 10) = false := decide_eq_false c19
                clear c19
                have H' := Aside0.mk H
                clear H
                have hnb29 := NB9001_9002.out
                have hnc29 := NB9002_9001.out
                have hcz30_0 : wr.cell? ⟨gb9001, 0, none⟩ = some (.int .i64 a0_0) := (blk_cell BK9001.out 0).trans rfl
                have hcz30_1 : wr.cell? ⟨gb9001, 1, none⟩ = some (.slice A0_1 l0_1.length c0_1) := (blk_cell BK9001.out 1).trans rfl
                have hcz30_2 : wr.cell? ⟨gb9001, 2, none⟩ = some (.slice A0_2 l0_2.length c0_2) := (blk_cell BK9001.out 2).trans rfl
                have hfz30_0 := blk_frozen BK9001.out 0
                have hfz30_1 := blk_frozen BK9001.out 1
                have hfz30_2 := blk_frozen BK9001.out 2
                go_wp2
                go_meet
                case rel => exact ⟨_, (x9003001_1), (u9003001), H', ⟨by have := HK1.out; first | omega | exact Nat.le_refl _⟩, ⟨Kd.V_ext HO_9002001.out⟩, ⟨Kd.V_ext HO_9002002.out⟩, ⟨Kd.R_ext HO_9003001.out⟩, ⟨blk_ext BK9001.out⟩, ⟨blk_ext BK9002.out⟩, ⟨below_extB HB.out⟩⟩
            · rw [if_neg c18] at H
              have c18b0 : decide (x12_1 < (l0_1.length : Int)) = false := decide_eq_false c18
              clear c18
              (first | rw [c18b0] | (simp only [i64_w, i32_w]; rw [c18b0]) | skip)
              have H' := Aside0.mk H
              clear H
              have hnb31 := NB9001_9002.out
              have hnc31 := NB9002_9001.out
              have hcz32_0 : wr.cell? ⟨gb9001, 0, none⟩ = some (.int .i64 a0_0) := (blk_cell BK9001.out 0).trans rfl
              have hcz32_1 : wr.cell? ⟨gb9001, 1, none⟩ = some (.slice A0_1 l0_1.length c0_1) := (blk_cell BK9001.out 1).trans rfl
              have hcz32_2 : wr.cell? ⟨gb9001, 2, none⟩ = some (.slice A0_2 l0_2.length c0_2) := (blk_cell BK9001.out 2).trans rfl
              have hfz32_0 := blk_frozen BK9001.out 0
              have hfz32_1 := blk_frozen BK9001.out 1
              have hfz32_2 := blk_frozen BK9001.out 2
              go_wp2
              go_meet
              case rel => exact ⟨_, (x9003001_1), (u9003001), H', ⟨by have := HK1.out; first | omega | exact Nat.le_refl _⟩, ⟨Kd.V_ext HO_9002001.out⟩, ⟨Kd.V_ext HO_9002002.out⟩, ⟨Kd.R_ext HO_9003001.out⟩, ⟨blk_ext BK9001.out⟩, ⟨blk_ext BK9002.out⟩, ⟨below_extB HB.out⟩⟩
      case rest =>
        clear HC14
        try clear c1
        try clear c2
        try clear p2
        try clear c3
        try clear p6
        try clear c9
        try clear p9
        try clear q9
        try clear hx9
        try clear c10
        try clear c12
        try clear c15
        try clear c18
        try clear c18b0
        try clear c19
        try clear c19b0
        try clear c20
        try clear c20b0
        try clear c22
        try clear c23
        try clear c27
        try clear c29
        try clear c31
        try clear hcz11_0
        try clear hcz11_1
        try clear hcz11_2
        try clear hcz16_0
        try clear hcz16_1
        try clear hcz16_2
        try clear hcz17_0
        try clear hcz17_1
        try clear hcz17_2
        try clear hcz24_0
        try clear hcz24_1
        try clear hcz24_2
        try clear hcz30_0
        try clear hcz30_1
        try clear hcz30_2
        try clear hcz32_0
        try clear hcz32_1
        try clear hcz32_2
        try clear hcz8_0
        try clear hcz8_1
        try clear hcz8_2
        try clear hfz11_0
        try clear hfz11_1
        try clear hfz11_2
        try clear hfz16_0
        try clear hfz16_1
        try clear hfz16_2
        try clear hfz17_0
        try clear hfz17_1
        try clear hfz17_2
        try clear hfz24_0
        try clear hfz24_1
        try clear hfz24_2
        try clear hfz30_0
        try clear hfz30_1
        try clear hfz30_2
        try clear hfz32_0
        try clear hfz32_1
        try clear hfz32_2
        try clear hfz8_0
        try clear hfz8_1
        try clear hfz8_2
        try clear hx9004_0
        try clear p2
        try clear p9004
        try clear q9004
        obtain ⟨kq, x9003001_13, u9003001, HA, HJ13, HO_9002001, HO_9002002, HO_9003001, BK9001, BK9002, HB⟩ := hcut
        cases kq with
        | zero => exact absurd HA.out (by simp [customslaw38_ChannelSteps.j1])
        | succ kj13 =>
          have H := HA.out
          clear HA
          simp only [customslaw38_ChannelSteps.j1] at H
          have H' := Aside0.mk H
          clear H
          go_wp2
          go_loopg [13] kj13 (fun kq v13 w' => ∃ (x13_2 : Int) (x9003002_2 : List Int) (u9003002 : Value), v13 = .int .i64 x13_2 ∧ Aside0 (customslaw38_ChannelSteps.l1 kq a1 a2 a3 x13_2 a0_0 l0_1 l0_2 t9003 x9003001_13 x9003002_2 = some r) ∧ Aside0 (kq ≤ kj13) ∧ Aside0 (Kd.V (Kd.int .i64) 3 w' w.heap.size (fun k_ => ((P0_1_ k_ ∨ P0_2_ k_) ∨ w.heap.size ≤ k_) ∧ some k_ ≠ (u9003001 : Value).ownBlock ∧ some k_ ≠ (u9003002 : Value).ownBlock ∧ k_ ≠ gb9001 ∧ k_ ≠ gb9002) (.slice A0_1 l0_1.length c0_1) l0_1) ∧ Aside0 (Kd.V (Kd.int .i64) 3 w' w.heap.size (fun k_ => ((P0_1_ k_ ∨ P0_2_ k_) ∨ w.heap.size ≤ k_) ∧ some k_ ≠ (u9003001 : Value).ownBlock ∧ some k_ ≠ (u9003002 : Value).ownBlock ∧ k_ ≠ gb9001 ∧ k_ ≠ gb9002) (.slice A0_2 l0_2.length c0_2) l0_2) ∧ Aside0 (Kd.R (Kd.int .i64) 3 w' w.heap.size (fun k_ => (w.heap.size ≤ k_) ∧ some k_ ≠ (u9003002 : Value).ownBlock) u9003001 x9003001_13) ∧ Aside0 (Kd.R (Kd.int .i64) 3 w' w.heap.size (fun k_ => (w.heap.size ≤ k_) ∧ some k_ ≠ (u9003001 : Value).ownBlock) u9003002 x9003002_2) ∧ Aside0 (w'.heap[gb9001]? = some (.cells #[.int .i64 a0_0, (.slice A0_1 l0_1.length c0_1), (.slice A0_2 l0_2.length c0_2)] 44 (0, 0))) ∧ Aside0 (w'.heap[gb9002]? = some (.cells #[.int .i64 t9003, u9003001, u9003002] 44 (0, 0))) ∧ Aside0 (Below w.heap.size w w'))
          case atStart => exact ⟨(0), (([] : List Int)), (.slice none 0 0), (by first | rfl | (simp; done) | (simp [*]; done)), H', ⟨Nat.le_refl _⟩, ⟨Kd.V_ext (Kd.V_mono HO_9002001.out (fun _ hk => ⟨hk.1, ⟨hk.2.1, ⟨(by simp [Value.ownBlock]), ⟨hk.2.2.1, hk.2.2.2⟩⟩⟩⟩))⟩, ⟨Kd.V_ext (Kd.V_mono HO_9002002.out (fun _ hk => ⟨hk.1, ⟨hk.2.1, ⟨(by simp [Value.ownBlock]), ⟨hk.2.2.1, hk.2.2.2⟩⟩⟩⟩))⟩, ⟨Kd.R_ext (Kd.R_mono HO_9003001.out (fun _ hk => ⟨hk, (by simp [Value.ownBlock])⟩))⟩, ⟨by first | exact Kd.R_nil _ _ _ _ _ | exact Kd.N_nil _ _ _ _ _ | exact Kd.V_nil _ _ _ _ _ | exact Kd.Q_nil _ _ _ _ _ | exact Kd.S_nil _ _ _ _ _⟩, ⟨blk_ext BK9001.out⟩, ⟨blk_ext BK9002.out⟩, ⟨below_extB HB.out⟩⟩
          case round =>
            clear H'
            try clear c1
            try clear c2
            try clear p2
            try clear c3
            try clear p6
            try clear c9
            try clear p9
            try clear q9
            try clear hx9
            try clear c10
            try clear c12
            try clear c15
            try clear c18
            try clear c18b0
            try clear c19
            try clear c19b0
            try clear c20
            try clear c20b0
            try clear c22
            try clear c23
            try clear c27
            try clear c29
            try clear c31
            try clear hcz11_0
            try clear hcz11_1
            try clear hcz11_2
            try clear hcz16_0
            try clear hcz16_1
            try clear hcz16_2
            try clear hcz17_0
            try clear hcz17_1
            try clear hcz17_2
            try clear hcz24_0
            try clear hcz24_1
            try clear hcz24_2
            try clear hcz30_0
            try clear hcz30_1
            try clear hcz30_2
            try clear hcz32_0
            try clear hcz32_1
            try clear hcz32_2
            try clear hcz8_0
            try clear hcz8_1
            try clear hcz8_2
            try clear hfz11_0
            try clear hfz11_1
            try clear hfz11_2
            try clear hfz16_0
            try clear hfz16_1
            try clear hfz16_2
            try clear hfz17_0
            try clear hfz17_1
            try clear hfz17_2
            try clear hfz24_0
            try clear hfz24_1
            try clear hfz24_2
            try clear hfz30_0
            try clear hfz30_1
            try clear hfz30_2
            try clear hfz32_0
            try clear hfz32_1
            try clear hfz32_2
            try clear hfz8_0
            try clear hfz8_1
            try clear hfz8_2
            try clear hx9004_0
            try clear p2
            try clear p6
            try clear p9
            try clear p9004
            try clear q9
            try clear q9004
            obtain ⟨x13_2, x9003002_2, u9003002, rfl, HA, HK2, HO_9002001, HO_9002002, HO_9003001, HO_9003002, BK9001, BK9002, HB⟩ := hrel
            cases gk with
            | zero => exact absurd HA.out (by simp [customslaw38_ChannelSteps.l1])
            | succ k2 =>
              have H := HA.out
              clear HA
              simp only [customslaw38_ChannelSteps.l1] at H
              by_cases c33 : x13_2 < (l0_2.length : Int)
              · rw [if_pos c33] at H
                have c33b0 : decide (x13_2 < (l0_2.length : Int)) = true := decide_eq_true c33
                clear c33
                by_cases c34 : x13_2 < 10
                · rw [if_pos c34] at H
                  have c34b0 : decide (x13_2 < 10) = true := decide_eq_true c34
                  clear c34
                  replace H := if_some H; obtain ⟨c35, H⟩ := H
                  have c35b0 : decide (0 ≤ x13_2) = true := decide_eq_true c35
                  clear c35
                  replace H := Option.bind_eq_some_iff.mp H
                  obtain ⟨t9010, A360, H⟩ := H
                  try dsimp only at H
                  have A36 := Aside0.mk A360
                  clear A360
                  replace H := if_some H; obtain ⟨c37, H⟩ := H
                  have LMc37 := Aside0.mk c37
                  clear c37
                  obtain ⟨y9011, hy9011⟩ : ∃ y_ : List Int, y_ = (x9003002_2 ++ [t9010]) := ⟨_, rfl⟩
                  replace H : (customslaw38_ChannelSteps.l1 k2 a1 a2 a3 (wrap64 (x13_2 + 1)) a0_0 l0_1 l0_2 t9003 x9003001_13 y9011) = some r := by first | (rw [hy9011]; with_reducible exact H) | (have H2_ := (Option.bind_some _ _).symm.trans H; rw [hy9011]; with_reducible exact H2_) | (have H2_ := (Option.bind_some _ _).symm.trans H; with_reducible exact H2_) | with_reducible exact H | (rw [hy9011]; exact H) | exact H
                  have Ny9011 := Aside0.mk hy9011
                  clear hy9011
                  have H' := Aside0.mk H
                  clear H
                  have hnb38 := NB9001_9002.out
                  have hnc38 := NB9002_9001.out
                  have hcz39_0 : wr.cell? ⟨gb9001, 0, none⟩ = some (.int .i64 a0_0) := (blk_cell BK9001.out 0).trans rfl
                  have hcz39_1 : wr.cell? ⟨gb9001, 1, none⟩ = some (.slice A0_1 l0_1.length c0_1) := (blk_cell BK9001.out 1).trans rfl
                  have hcz39_2 : wr.cell? ⟨gb9001, 2, none⟩ = some (.slice A0_2 l0_2.length c0_2) := (blk_cell BK9001.out 2).trans rfl
                  have hfz39_0 := blk_frozen BK9001.out 0
                  have hfz39_1 := blk_frozen BK9001.out 1
                  have hfz39_2 := blk_frozen BK9001.out 2
                  try go_wp2
                  have n0_ := Aside0.mk (Kd.V_drew HO_9002001.out)
                  have n1_ := Aside0.mk (Kd.V_drew HO_9002002.out)
                  have n2_ := Aside0.mk (Kd.R_drew HO_9003001.out)
                  have n3_ := Aside0.mk (Kd.R_drew HO_9003002.out)
                  have n4_ := Aside0.mk (blk_drew BK9001.out)
                  have n5_ := Aside0.mk (blk_drew BK9002.out)
                  have n6_ := Aside0.mk (below_drew1 HB.out)
                  clear HO_9002001
                  clear HO_9002002
                  clear HO_9003001
                  clear HO_9003002
                  clear BK9001
                  clear BK9002
                  clear HB
                  have HO_9002001 := n0_
                  have HO_9002002 := n1_
                  have HO_9003001 := n2_
                  have HO_9003002 := n3_
                  have BK9001 := n4_
                  have BK9002 := n5_
                  have HB := n6_
                  clear n0_ n1_ n2_ n3_ n4_ n5_ n6_
                  have p9009 : 0 ≤ (x13_2 : Int) := of_decide_eq_true (by first | (with_reducible assumption) | assumption)
                  have q9009 : x13_2 < (l0_2.length : Int) := of_decide_eq_true (by first | (with_reducible assumption) | assumption)
                  obtain ⟨ad9009, e9009, hx9009_0⟩ := Kd.at_int (Kd.V_reads' HO_9002002.out).2.2 x13_2 p9009 q9009
                  cases e9009
                  replace p9009 := eq_true p9009
                  replace q9009 := eq_true q9009
                  refine start_ (n := 12) (S := fun w' => w'.cell? ⟨gb9002, 0, none⟩ = some (.int .i64 t9003) ∧ w'.cell? ⟨gb9002, 1, none⟩ = some (u9003001) ∧ w'.cell? ⟨gb9002, 2, none⟩ = some (u9003002) ∧ w'.cell? ⟨gb9001, 0, none⟩ = some (.int .i64 a0_0) ∧ w'.cell? ⟨gb9001, 1, none⟩ = some (.slice A0_1 l0_1.length c0_1) ∧ w'.cell? ⟨gb9001, 2, none⟩ = some (.slice (some ad9009) l0_2.length c0_2) ∧ w'.cell? (ad9009.add (x13_2).toNat) = some (.int .i64 (rd l0_2 x13_2))) (ds := [9, 11]) #[false, false, false, false, false, false, false, false, false, false, false, false] (by kernel_rfl) rfl rfl ⟨(blk_cell BK9002.out 0).trans rfl, (blk_cell BK9002.out 1).trans rfl, (blk_cell BK9002.out 2).trans rfl, (blk_cell BK9001.out 0).trans rfl, (blk_cell BK9001.out 1).trans rfl, (blk_cell BK9001.out 2).trans rfl, hx9009_0⟩ (fun hHeld => ?_); refine with_tabW customslaw38_ChannelSteps.tab11 customslaw38_ChannelSteps.bits11 (fun HT_ HW_ => ?_)
                  generalize wr.drew = w40 at HO_9002001 HO_9002002 HO_9003001 HO_9003002 BK9001 BK9002 HB hx9009_0 hHeld ⊢
                  refine pure_ (i := 0) (N := some 61) (v := ?_) (a' := ?_) #[true, false, false, false, false, false, false, false, false, false, false, false] rfl rfl (any_of HT_.out (by kernel_rfl)) (fun _ _ _ h => h) (Or.inl ⟨by rfl, ?_⟩) ?_ ?_
                  rotate_left
                  · intro w'
                    go_simp
                    with_reducible rfl
                  rotate_left
                  · simp only [Act.put, List.setIfInBounds_toArray, List.set_cons_zero, List.set_cons_succ, i64_w, i32_w]
                    rfl
                  refine pure_ (i := 2) (N := some 63) (v := ?_) (a' := ?_) #[true, false, true, false, false, false, false, false, false, false, false, false] rfl rfl (any_of HT_.out (by kernel_rfl)) (fun _ _ _ h => h) (Or.inl ⟨by rfl, ?_⟩) ?_ ?_
                  rotate_left
                  · intro w'
                    go_simp
                    with_reducible rfl
                  rotate_left
                  · simp only [Act.put, List.setIfInBounds_toArray, List.set_cons_zero, List.set_cons_succ, i64_w, i32_w]
                    rfl
                  refine pure_ (i := 4) (N := some 65) (v := ?_) (a' := ?_) #[true, false, true, false, true, false, false, false, false, false, false, false] rfl rfl (any_of HT_.out (by kernel_rfl)) (fun _ _ _ h => h) (Or.inl ⟨by rfl, ?_⟩) ?_ ?_
                  rotate_left
                  · intro w'
                    go_simp
                    with_reducible rfl
                  rotate_left
                  · simp only [Act.put, List.setIfInBounds_toArray, List.set_cons_zero, List.set_cons_succ, i64_w, i32_w]
                    rfl
                  refine take_ (i := 1) (N := some 62) (v := ?_) (a' := ?_) #[true, true, true, false, true, false, false, false, false, false, false, false] rfl rfl (take_ofW HT_.out HW_.out (by kernel_rfl)) (fun _ _ _ h => h) (Or.inl ⟨by rfl, ?_⟩) hHeld ?_ ?_
                  rotate_left
                  · rintro w' ⟨s0, s1, s2, s3, s4, s5, s6⟩
                    go_simp
                    with_reducible rfl
                  rotate_left
                  · simp only [Act.put, List.setIfInBounds_toArray, List.set_cons_zero, List.set_cons_succ, i64_w, i32_w]
                    rfl
                  refine take_ (i := 3) (N := some 64) (v := ?_) (a' := ?_) #[true, true, true, true, true, false, false, false, false, false, false, false] rfl rfl (take_ofW HT_.out HW_.out (by kernel_rfl)) (fun _ _ _ h => h) (Or.inl ⟨by rfl, ?_⟩) hHeld ?_ ?_
                  rotate_left
                  · rintro w' ⟨s0, s1, s2, s3, s4, s5, s6⟩
                    go_simp
                    with_reducible rfl
                  rotate_left
                  · simp only [Act.put, List.setIfInBounds_toArray, List.set_cons_zero, List.set_cons_succ, i64_w, i32_w]
                    rfl
                  refine pure_ (i := 5) (N := some 66) (v := ?_) (a' := ?_) #[true, true, true, true, true, true, false, false, false, false, false, false] rfl rfl (any_of HT_.out (by kernel_rfl)) (fun _ _ _ h => h) (Or.inl ⟨by rfl, ?_⟩) ?_ ?_
                  rotate_left
                  · intro w'
                    go_simp
                    with_reducible rfl
                  rotate_left
                  · simp only [Act.put, List.setIfInBounds_toArray, List.set_cons_zero, List.set_cons_succ, i64_w, i32_w]
                    rfl
                  refine take_ (i := 6) (N := some 67) (v := ?_) (a' := ?_) #[true, true, true, true, true, true, true, false, false, false, false, false] rfl rfl (take_ofW HT_.out HW_.out (by kernel_rfl)) (fun _ _ _ h => h) (Or.inl ⟨by rfl, ?_⟩) hHeld ?_ ?_
                  rotate_left
                  · rintro w' ⟨s0, s1, s2, s3, s4, s5, s6⟩
                    go_simp
                    with_reducible rfl
                  rotate_left
                  · simp only [Act.put, List.setIfInBounds_toArray, List.set_cons_zero, List.set_cons_succ, i64_w, i32_w]
                    rfl
                  refine one_ (i := 7) (N := some 68) #[true, true, true, true, true, true, true, true, false, false, false, false] rfl rfl (one_of HT_.out (by kernel_rfl)) (by decide) (fun K hK => ?_)
                  refine goes_ Try.func27 (by kernel_rfl) rfl #[.int .i64 (rd l0_2 x13_2), .int .i64 9] (by rfl) rfl rfl (by (try simp only [List.map_toArray, List.map_cons, List.map_nil]); first | done | rfl | (simp only [List.length_drop, List.length_take]; rfl)) ?_
                  with_reducible refine (customsmade_Within.calls (rd l0_2 x13_2) 9 t9010 _ A36.out).mono ?_
                  rintro e w' ⟨rfl, ⟨nd, rfl⟩⟩
                  refine ⟨_, rfl, ?_⟩
                  refine hK.out _ _ ⟨(blk_cell BK9002.out 0).trans rfl, (blk_cell BK9002.out 1).trans rfl, (blk_cell BK9002.out 2).trans rfl, (blk_cell BK9001.out 0).trans rfl, (blk_cell BK9001.out 1).trans rfl, (blk_cell BK9001.out 2).trans rfl, hHeld.2.2.2.2.2.2⟩ (fun hHeld => ?_)
                  clear hK K
                  refine norm_ (a' := ?_) ?_ ?_
                  rotate_left
                  · show Act.put _ (some 68) _ = _
                    simp only [Act.put, List.setIfInBounds_toArray, List.set_cons_zero, List.set_cons_succ, i64_w, i32_w]
                    rfl
                  refine one_ (i := 8) (N := some 69) #[true, true, true, true, true, true, true, true, true, false, false, false] rfl rfl (one_of HT_.out (by kernel_rfl)) (by decide) (fun K hK => ?_)
                  refine value_ (w1 := ?_) (v := ?_) (by rfl) rfl ?_ ?_
                  rotate_left 2
                  · go_simp
                    constructor
                    · rfl
                    · rfl
                  refine hK.out _ _ ⟨(blk_cell (blk_alloc BK9002.out _) 0).trans rfl, (blk_cell (blk_alloc BK9002.out _) 1).trans rfl, (blk_cell (blk_alloc BK9002.out _) 2).trans rfl, (blk_cell (blk_alloc BK9001.out _) 0).trans rfl, (blk_cell (blk_alloc BK9001.out _) 1).trans rfl, (blk_cell (blk_alloc BK9001.out _) 2).trans rfl, (World.cell?_alloc_lt _ _ _ (World.block_lt_of_cell? _ _ (hHeld.2.2.2.2.2.2))).trans (hHeld.2.2.2.2.2.2)⟩ (fun hHeld => ?_)
                  clear hK K
                  refine norm_ (a' := ?_) ?_ ?_
                  rotate_left
                  · show Act.put _ (some 69) _ = _
                    simp only [Act.put, List.setIfInBounds_toArray, List.set_cons_zero, List.set_cons_succ, i64_w, i32_w]
                    rfl
                  refine last_ (i := 9) (N := some 70) #[true, true, true, true, true, true, true, true, true, true, false, false] rfl rfl (one_of HT_.out (by kernel_rfl)) (by decide) (fun K hK => ?_)
                  refine Kd.R_append_step (Kd.int .i64) (w0 := w) w.heap.size (by rfl) (.tmp 62) (.tmp 69) 42 3 (.int .i64 0) 8 rfl Try.underlying42 info3 rfl (by decide) (by omega) u9003002 x9003002_2 t9010 [.int .i64 t9010] (fun k_ => (w.heap.size ≤ k_) ∧ some k_ ≠ (u9003001 : Value).ownBlock) (fun _ => False) rfl rfl ?aP (fun _ hk => hk.elim) ?aF ?aO ?aB ?aS ?aL ?_
                  (case aP => exact rfl)
                  (case aB => exact (below_extB HB.out))
                  (case aF => exact (fun k_ hk => ⟨(Nat.le_trans (below_size (below_extB HB.out)) hk), Kd.fresh' (Kd.R_lt (Kd.R_ext HO_9003001.out)) k_ hk⟩))
                  (case aO => exact (Kd.R_ext HO_9003002.out))
                  (case aS => exact (below_size (below_extB HB.out)))
                  (case aL => have := LMc37.out; omega)
                  intro v9012 w41 ho hb hg hat
                  rw [← Ny9011.out] at ho
                  have n0_ := Aside0.mk (Kd.V_afterv (ok := (fun k_ => ((P0_1_ k_ ∨ P0_2_ k_) ∨ w.heap.size ≤ k_) ∧ some k_ ≠ (u9003001 : Value).ownBlock ∧ k_ ≠ gb9001 ∧ k_ ≠ gb9002)) (Kd.V_ext (Kd.V_mono HO_9002001.out (fun _ hk => ⟨⟨hk.1, ⟨hk.2.1, ⟨hk.2.2.2.1, hk.2.2.2.2⟩⟩⟩, hk.2.2.1⟩))) hg hat)
                  have n1_ := Aside0.mk (Kd.V_afterv (ok := (fun k_ => ((P0_1_ k_ ∨ P0_2_ k_) ∨ w.heap.size ≤ k_) ∧ some k_ ≠ (u9003001 : Value).ownBlock ∧ k_ ≠ gb9001 ∧ k_ ≠ gb9002)) (Kd.V_ext (Kd.V_mono HO_9002002.out (fun _ hk => ⟨⟨hk.1, ⟨hk.2.1, ⟨hk.2.2.2.1, hk.2.2.2.2⟩⟩⟩, hk.2.2.1⟩))) hg hat)
                  have n2_ := Aside0.mk (Kd.R_after (ok := (fun k_ => (w.heap.size ≤ k_))) (Kd.R_ext HO_9003001.out) hg hat)
                  have n3_ := Aside0.mk (blk_grown (g := gb9001) (o := .cells #[.int .i64 a0_0, .slice A0_1 l0_1.length c0_1, .slice (some ad9009) l0_2.length c0_2] 44 (0, 0)) (blk_ext BK9001.out) hg (Kd.R_ne HO_9003002.out BK9001.out (by decide)))
                  have n4_ := Aside0.mk (blk_grown (g := gb9002) (o := .cells #[.int .i64 t9003, u9003001, u9003002] 44 (0, 0)) (blk_ext BK9002.out) hg (Kd.R_ne HO_9003002.out BK9002.out (by decide)))
                  have n5_ := Aside0.mk (hb)
                  have n6_ := Aside0.mk (ho)
                  clear HO_9002001
                  clear HO_9002002
                  clear HO_9003001
                  clear BK9001
                  clear BK9002
                  clear HB
                  clear HO_9003002
                  have HO_9002001 := n0_
                  have HO_9002002 := n1_
                  have HO_9003001 := n2_
                  have BK9001 := n3_
                  have BK9002 := n4_
                  have HB := n5_
                  have HO9013 := n6_
                  clear n0_ n1_ n2_ n3_ n4_ n5_ n6_
                  clear ho hb hg hat
                  obtain ⟨Ao42, co42, eo42⟩ := Kd.R_slice HO9013.out
                  (first | subst eo42 | (injection eo42 with f1_ f2_ f3_; have f4_ := f1_.symm; have f5_ := f3_.symm; clear f1_ f2_ f3_; subst f4_; subst f5_))
                  refine hK.out _ _ ?_
                  clear hK K
                  refine norm_ (a' := ?_) ?_ ?_
                  rotate_left
                  · show Act.put _ (some 70) _ = _
                    simp only [Act.put, List.setIfInBounds_toArray, List.set_cons_zero, List.set_cons_succ, i64_w, i32_w]
                    rfl
                  refine pure_ (i := 10) (N := some 71) (v := ?_) (a' := ?_) #[true, true, true, true, true, true, true, true, true, true, true, false] rfl rfl (any_of HT_.out (by kernel_rfl)) (fun _ _ _ h => h) (Or.inl ⟨by rfl, ?_⟩) ?_ ?_
                  rotate_left
                  · intro w'
                    go_simp
                    with_reducible rfl
                  rotate_left
                  · simp only [Act.put, List.setIfInBounds_toArray, List.set_cons_zero, List.set_cons_succ, i64_w, i32_w]
                    rfl
                  refine last_ (i := 11) (N := none) #[true, true, true, true, true, true, true, true, true, true, true, true] rfl rfl (one_of HT_.out (by kernel_rfl)) (by decide) (fun K hK => ?_)
                  have hs43 : w41.cell? ⟨gb9002, 2, none⟩ = some (u9003002) := (blk_cell BK9002.out 2).trans rfl
                  have hfs43 := blk_frozen BK9002.out 2
                  have hns43_0 := NB9001_9002.out
                  have hms43_0 := NB9002_9001.out
                  refine skip_ (w1 := ?_) (by rfl) rfl ?_ ?_
                  rotate_left
                  · go_simp
                    rfl
                  refine hK.out _ _ ?_
                  clear hK K
                  refine done_ (done_of HT_.out (by kernel_rfl)) ?_
                  try go_wp2
                  go_roundg k2
                  case measure => have := HJ13.out; have := HK2.out; omega
                  case rel => exact ⟨(wrap64 (x13_2 + 1)), (y9011), (.slice Ao42 y9011.length co42), (by first | rfl | (simp; done) | (simp [*]; done)), H', ⟨by have := HJ13.out; have := HK2.out; omega⟩, ⟨Kd.V_ext (Kd.V_mono (Kd.V_far (p := ⟨gb9002, 2, none⟩) (Kd.V_mono HO_9002001.out (fun k_ hk => (⟨hk, hk.1.2.2.2⟩ : _ ∧ k_ ≠ gb9002))) (fun _ hk => hk.2) (.slice Ao42 y9011.length co42)) (fun _ hk => ⟨hk.1.1.1, ⟨hk.1.1.2.1, ⟨hk.1.2, ⟨hk.1.1.2.2.1, hk.1.1.2.2.2⟩⟩⟩⟩))⟩, ⟨Kd.V_ext (Kd.V_mono (Kd.V_far (p := ⟨gb9002, 2, none⟩) (Kd.V_mono HO_9002002.out (fun k_ hk => (⟨hk, hk.1.2.2.2⟩ : _ ∧ k_ ≠ gb9002))) (fun _ hk => hk.2) (.slice Ao42 y9011.length co42)) (fun _ hk => ⟨hk.1.1.1, ⟨hk.1.1.2.1, ⟨hk.1.2, ⟨hk.1.1.2.2.1, hk.1.1.2.2.2⟩⟩⟩⟩))⟩, ⟨Kd.R_ext (Kd.R_mono (Kd.R_far (p := ⟨gb9002, 2, none⟩) (Kd.R_types HO_9003001.out BK9002.out (by decide)) (fun _ hk => hk.2) (.slice Ao42 y9011.length co42)) (fun _ hk => ⟨hk.1.1, hk.1.2⟩))⟩, ⟨Kd.R_ext (Kd.R_mono (Kd.R_far (p := ⟨gb9002, 2, none⟩) (Kd.R_types HO9013.out BK9002.out (by decide)) (fun _ hk => hk.2) (.slice Ao42 y9011.length co42)) (fun _ hk => ⟨hk.1.1, hk.1.2⟩))⟩, ⟨blk_extC BK9001.out⟩, ⟨by (with_reducible repeat (first | refine blk_drewN ?_ _ | refine blk_drew ?_ | refine blk_alloc ?_ _)); refine blk_put (cs := #[.int .i64 t9003, u9003001, u9003002]) ?_ 2 _ rfl; exact blk_ext BK9002.out⟩, ⟨below_extB HB.out⟩⟩
                · rw [if_neg c34] at H
                  have c34b0 : decide (x13_2 < 10) = false := decide_eq_false c34
                  clear c34
                  replace H := Option.bind_eq_some_iff.mp H
                  obtain ⟨t9014, A440, H⟩ := H
                  try dsimp only at H
                  have A44 := Aside0.mk A440
                  clear A440
                  replace H := Option.bind_eq_some_iff.mp H
                  obtain ⟨t9015, A450, H⟩ := H
                  try dsimp only at H
                  have A45 := Aside0.mk A450
                  clear A450
                  replace H := Option.bind_eq_some_iff.mp H
                  obtain ⟨t9016, A460, H⟩ := H
                  try dsimp only at H
                  have A46 := Aside0.mk A460
                  clear A460
                  have H' := Aside0.mk H
                  clear H
                  have hnb47 := NB9001_9002.out
                  have hnc47 := NB9002_9001.out
                  have hcz48_0 : wr.cell? ⟨gb9001, 0, none⟩ = some (.int .i64 a0_0) := (blk_cell BK9001.out 0).trans rfl
                  have hcz48_1 : wr.cell? ⟨gb9001, 1, none⟩ = some (.slice A0_1 l0_1.length c0_1) := (blk_cell BK9001.out 1).trans rfl
                  have hcz48_2 : wr.cell? ⟨gb9001, 2, none⟩ = some (.slice A0_2 l0_2.length c0_2) := (blk_cell BK9001.out 2).trans rfl
                  have hfz48_0 := blk_frozen BK9001.out 0
                  have hfz48_1 := blk_frozen BK9001.out 1
                  have hfz48_2 := blk_frozen BK9001.out 2
                  go_wp2_with (first | ((with_reducible refine gate_callee (f := 27) rfl ?_); refine goesL_ (some 73) rfl rfl Try.func27 (by kernel_rfl) rfl #[.int .i64 a1, .int .i64 12] rfl (by (try simp only [List.map_toArray, List.map_cons, List.map_nil]); first | done | rfl | (simp only [List.length_drop, List.length_take]; rfl)) ?_; (with_reducible refine (customsmade_Within.calls a1 12 t9014 _ A44.out).mono ?_); rintro e w' ⟨rfl, ⟨nd, rfl⟩⟩; refine ⟨_, rfl, ?_⟩) | ((with_reducible refine gate_callee (f := 27) rfl ?_); refine goesL_ (some 75) rfl rfl Try.func27 (by kernel_rfl) rfl #[.int .i64 a2, .int .i64 11] rfl (by (try simp only [List.map_toArray, List.map_cons, List.map_nil]); first | done | rfl | (simp only [List.length_drop, List.length_take]; rfl)) ?_; (with_reducible refine (customsmade_Within.calls a2 11 t9015 _ A45.out).mono ?_); rintro e w' ⟨rfl, ⟨nd, rfl⟩⟩; refine ⟨_, rfl, ?_⟩) | ((with_reducible refine gate_callee (f := 27) rfl ?_); refine goesL_ (some 77) rfl rfl Try.func27 (by kernel_rfl) rfl #[.int .i64 a3, .int .i64 9] rfl (by (try simp only [List.map_toArray, List.map_cons, List.map_nil]); first | done | rfl | (simp only [List.length_drop, List.length_take]; rfl)) ?_; (with_reducible refine (customsmade_Within.calls a3 9 t9016 _ A46.out).mono ?_); rintro e w' ⟨rfl, ⟨nd, rfl⟩⟩; refine ⟨_, rfl, ?_⟩))
                  go_meet
                  case rel => exact ⟨_, (t9014), (t9015), (t9016), (t9003), (x9003001_13), (x9003002_2), (u9003001), (u9003002), (by first | rfl | (simp; done) | (simp [*]; done)), (by first | rfl | (simp; done) | (simp [*]; done)), (by first | rfl | (simp; done) | (simp [*]; done)), H', ⟨by have := HJ13.out; have := HK2.out; first | omega | exact Nat.le_refl _⟩, ⟨Kd.V_ext (Kd.V_mono HO_9002001.out (fun _ hk => ⟨hk.1, ⟨hk.2.2.2.1, hk.2.2.2.2⟩⟩))⟩, ⟨Kd.V_ext (Kd.V_mono HO_9002002.out (fun _ hk => ⟨hk.1, ⟨hk.2.2.2.1, hk.2.2.2.2⟩⟩))⟩, ⟨Kd.V_mono (Kd.R_V (Kd.R_ext (Kd.R_mono (Kd.R_types (Kd.R_types HO_9003001.out BK9001.out (by decide)) BK9002.out (by decide)) (fun _ hk => (And.intro (hk.1.1.1) (And.intro (hk.1.2) (hk.2))))))) (fun k_ hk => by first | exact ⟨(.inr (hk.1)), hk.2⟩ | exact (.inr (hk)))⟩, ⟨Kd.V_mono (Kd.R_V (Kd.R_ext (Kd.R_mono (Kd.R_types (Kd.R_types HO_9003002.out BK9001.out (by decide)) BK9002.out (by decide)) (fun _ hk => (And.intro (hk.1.1.1) (And.intro (hk.1.2) (hk.2))))))) (fun k_ hk => by first | exact ⟨(.inr (hk.1)), hk.2⟩ | exact (.inr (hk)))⟩, ⟨blk_ext BK9001.out⟩, ⟨blk_ext BK9002.out⟩, ⟨below_extB HB.out⟩⟩
              · rw [if_neg c33] at H
                have c33b0 : decide (x13_2 < (l0_2.length : Int)) = false := decide_eq_false c33
                clear c33
                replace H := Option.bind_eq_some_iff.mp H
                obtain ⟨t9017, A490, H⟩ := H
                try dsimp only at H
                have A49 := Aside0.mk A490
                clear A490
                replace H := Option.bind_eq_some_iff.mp H
                obtain ⟨t9018, A500, H⟩ := H
                try dsimp only at H
                have A50 := Aside0.mk A500
                clear A500
                replace H := Option.bind_eq_some_iff.mp H
                obtain ⟨t9019, A510, H⟩ := H
                try dsimp only at H
                have A51 := Aside0.mk A510
                clear A510
                have H' := Aside0.mk H
                clear H
                have hnb52 := NB9001_9002.out
                have hnc52 := NB9002_9001.out
                have hcz53_0 : wr.cell? ⟨gb9001, 0, none⟩ = some (.int .i64 a0_0) := (blk_cell BK9001.out 0).trans rfl
                have hcz53_1 : wr.cell? ⟨gb9001, 1, none⟩ = some (.slice A0_1 l0_1.length c0_1) := (blk_cell BK9001.out 1).trans rfl
                have hcz53_2 : wr.cell? ⟨gb9001, 2, none⟩ = some (.slice A0_2 l0_2.length c0_2) := (blk_cell BK9001.out 2).trans rfl
                have hfz53_0 := blk_frozen BK9001.out 0
                have hfz53_1 := blk_frozen BK9001.out 1
                have hfz53_2 := blk_frozen BK9001.out 2
                go_wp2_with (first | ((with_reducible refine gate_callee (f := 27) rfl ?_); refine goesL_ (some 73) rfl rfl Try.func27 (by kernel_rfl) rfl #[.int .i64 a1, .int .i64 12] rfl (by (try simp only [List.map_toArray, List.map_cons, List.map_nil]); first | done | rfl | (simp only [List.length_drop, List.length_take]; rfl)) ?_; (with_reducible refine (customsmade_Within.calls a1 12 t9017 _ A49.out).mono ?_); rintro e w' ⟨rfl, ⟨nd, rfl⟩⟩; refine ⟨_, rfl, ?_⟩) | ((with_reducible refine gate_callee (f := 27) rfl ?_); refine goesL_ (some 75) rfl rfl Try.func27 (by kernel_rfl) rfl #[.int .i64 a2, .int .i64 11] rfl (by (try simp only [List.map_toArray, List.map_cons, List.map_nil]); first | done | rfl | (simp only [List.length_drop, List.length_take]; rfl)) ?_; (with_reducible refine (customsmade_Within.calls a2 11 t9018 _ A50.out).mono ?_); rintro e w' ⟨rfl, ⟨nd, rfl⟩⟩; refine ⟨_, rfl, ?_⟩) | ((with_reducible refine gate_callee (f := 27) rfl ?_); refine goesL_ (some 77) rfl rfl Try.func27 (by kernel_rfl) rfl #[.int .i64 a3, .int .i64 9] rfl (by (try simp only [List.map_toArray, List.map_cons, List.map_nil]); first | done | rfl | (simp only [List.length_drop, List.length_take]; rfl)) ?_; (with_reducible refine (customsmade_Within.calls a3 9 t9019 _ A51.out).mono ?_); rintro e w' ⟨rfl, ⟨nd, rfl⟩⟩; refine ⟨_, rfl, ?_⟩))
                go_meet
                case rel => exact ⟨_, (t9017), (t9018), (t9019), (t9003), (x9003001_13), (x9003002_2), (u9003001), (u9003002), (by first | rfl | (simp; done) | (simp [*]; done)), (by first | rfl | (simp; done) | (simp [*]; done)), (by first | rfl | (simp; done) | (simp [*]; done)), H', ⟨by have := HJ13.out; have := HK2.out; first | omega | exact Nat.le_refl _⟩, ⟨Kd.V_ext (Kd.V_mono HO_9002001.out (fun _ hk => ⟨hk.1, ⟨hk.2.2.2.1, hk.2.2.2.2⟩⟩))⟩, ⟨Kd.V_ext (Kd.V_mono HO_9002002.out (fun _ hk => ⟨hk.1, ⟨hk.2.2.2.1, hk.2.2.2.2⟩⟩))⟩, ⟨Kd.V_mono (Kd.R_V (Kd.R_ext (Kd.R_mono (Kd.R_types (Kd.R_types HO_9003001.out BK9001.out (by decide)) BK9002.out (by decide)) (fun _ hk => (And.intro (hk.1.1.1) (And.intro (hk.1.2) (hk.2))))))) (fun k_ hk => by first | exact ⟨(.inr (hk.1)), hk.2⟩ | exact (.inr (hk)))⟩, ⟨Kd.V_mono (Kd.R_V (Kd.R_ext (Kd.R_mono (Kd.R_types (Kd.R_types HO_9003002.out BK9001.out (by decide)) BK9002.out (by decide)) (fun _ hk => (And.intro (hk.1.1.1) (And.intro (hk.1.2) (hk.2))))))) (fun k_ hk => by first | exact ⟨(.inr (hk.1)), hk.2⟩ | exact (.inr (hk)))⟩, ⟨blk_ext BK9001.out⟩, ⟨blk_ext BK9002.out⟩, ⟨below_extB HB.out⟩⟩
  case rest =>
    clear HC6
    try clear c1
    try clear c2
    try clear p2
    try clear c3
    try clear c4
    try clear c5
    try clear p6
    try clear c9
    try clear p9
    try clear q9
    try clear hx9
    try clear c10
    try clear c12
    try clear c15
    try clear c18
    try clear c18b0
    try clear c19
    try clear c19b0
    try clear c20
    try clear c20b0
    try clear c22
    try clear c23
    try clear c27
    try clear c29
    try clear c31
    try clear c33
    try clear c33b0
    try clear c34
    try clear c34b0
    try clear c35
    try clear c35b0
    try clear c37
    try clear c38
    try clear c47
    try clear c52
    try clear hcz11_0
    try clear hcz11_1
    try clear hcz11_2
    try clear hcz16_0
    try clear hcz16_1
    try clear hcz16_2
    try clear hcz17_0
    try clear hcz17_1
    try clear hcz17_2
    try clear hcz24_0
    try clear hcz24_1
    try clear hcz24_2
    try clear hcz30_0
    try clear hcz30_1
    try clear hcz30_2
    try clear hcz32_0
    try clear hcz32_1
    try clear hcz32_2
    try clear hcz39_0
    try clear hcz39_1
    try clear hcz39_2
    try clear hcz48_0
    try clear hcz48_1
    try clear hcz48_2
    try clear hcz53_0
    try clear hcz53_1
    try clear hcz53_2
    try clear hcz8_0
    try clear hcz8_1
    try clear hcz8_2
    try clear hfz11_0
    try clear hfz11_1
    try clear hfz11_2
    try clear hfz16_0
    try clear hfz16_1
    try clear hfz16_2
    try clear hfz17_0
    try clear hfz17_1
    try clear hfz17_2
    try clear hfz24_0
    try clear hfz24_1
    try clear hfz24_2
    try clear hfz30_0
    try clear hfz30_1
    try clear hfz30_2
    try clear hfz32_0
    try clear hfz32_1
    try clear hfz32_2
    try clear hfz39_0
    try clear hfz39_1
    try clear hfz39_2
    try clear hfz48_0
    try clear hfz48_1
    try clear hfz48_2
    try clear hfz53_0
    try clear hfz53_1
    try clear hfz53_2
    try clear hfz8_0
    try clear hfz8_1
    try clear hfz8_2
    try clear hx9004_0
    try clear hx9009_0
    try clear p2
    try clear p6
    try clear p9
    try clear p9004
    try clear p9009
    try clear q9
    try clear q9004
    try clear q9009
    obtain ⟨kq, x1_5, x2_5, x3_5, x9003000_5, x9003001_5, x9003002_5, u9003001, u9003002, rfl, rfl, rfl, HA, HJ5, HO_9002001, HO_9002002, HO_9003001, HO_9003002, BK9001, BK9002, HB⟩ := hcut
    cases kq with
    | zero => exact absurd HA.out (by simp [customslaw38_ChannelSteps.j3])
    | succ kj5 =>
      have H := HA.out
      clear HA
      simp only [customslaw38_ChannelSteps.j3] at H
      replace H := Option.bind_eq_some_iff.mp H
      obtain ⟨⟨t9020, t9021, t9024, t9027⟩, A540, H⟩ := H
      try dsimp only at H
      have A54 := Aside0.mk A540
      clear A540
      replace H := Option.bind_eq_some_iff.mp H
      obtain ⟨⟨t9029, t9030, t9033, t9036⟩, A550, H⟩ := H
      try dsimp only at H
      have A55 := Aside0.mk A550
      clear A550
      by_cases c56 : t9027 = t9036
      · rw [if_pos c56] at H
        have c56b0 : (t9027 == t9036) = true := beq_iff_eq.mpr c56
        have c56b1 : (t9027 != t9036) = false := bne_eq_false_iff_eq.mpr c56
        clear c56
        replace H := Option.bind_eq_some_iff.mp H
        obtain ⟨t9038, A570, H⟩ := H
        try dsimp only at H
        have A57 := Aside0.mk A570
        clear A570
        by_cases c58 : t9038 = true
        · subst c58
          have H1 : ((channel_Deliver.f kj5 x9003000_5 x9003001_5 x9003002_5 x2_5 x3_5).bind fun bt9039 => ((customsref33_Deliver.f kj5 x9003000_5 x9003001_5 x9003002_5 x2_5 x3_5).bind fun bt9048 => (if bt9039.2.2.2.2 = bt9048.2.2.2.2 then (if bt9039.2.2.2.1 = bt9048.2.2.2.1 then ((customsref33_SameLine.f kj5 bt9039.1 bt9039.2.1 bt9039.2.2.1 bt9048.1 bt9048.2.1 bt9048.2.2.1).bind fun t9057 => (if t9057 = true then ((channel_Lose.f x9003000_5 x9003001_5 x9003002_5 x2_5).bind fun bt9058 => ((customsref33_Lose.f x9003000_5 x9003001_5 x9003002_5 x2_5).bind fun bt9066 => (if bt9058.2.2.2 = bt9066.2.2.2 then ((customsref33_SameLine.f kj5 bt9058.1 bt9058.2.1 bt9058.2.2.1 bt9066.1 bt9066.2.1 bt9066.2.2.1).bind fun t9074 => (if t9074 = true then ((channel_Repeat.f x9003000_5 x9003001_5 x9003002_5 x2_5).bind fun bt9075 => ((customsref33_Repeat.f kj5 x9003000_5 x9003001_5 x9003002_5 x2_5).bind fun bt9083 => (if bt9075.2.2.2 = bt9083.2.2.2 then ((customsref33_SameLine.f kj5 bt9075.1 bt9075.2.1 bt9075.2.2.1 bt9083.1 bt9083.2.1 bt9083.2.2.1).bind fun t9091 => (if t9091 = true then ((channel_Confirm.f x9003000_5 x9003001_5 x9003002_5 x2_5).bind fun bt9092 => ((customsref33_Confirm.f x9003000_5 x9003001_5 x9003002_5 x2_5).bind fun bt9100 => (if bt9092.2.2.2 = bt9100.2.2.2 then ((customsref33_SameLine.f kj5 bt9092.1 bt9092.2.1 bt9092.2.2.1 bt9100.1 bt9100.2.1 bt9100.2.2.1).bind fun t9108 => (if t9108 = true then ((channel_Forget.f x9003000_5 x9003001_5 x9003002_5 x2_5).bind fun bt9109 => ((customsref33_Forget.f x9003000_5 x9003001_5 x9003002_5 x2_5).bind fun bt9117 => (if bt9109.2.2.2 = bt9117.2.2.2 then ((customsref33_SameLine.f kj5 bt9109.1 bt9109.2.1 bt9109.2.2.1 bt9117.1 bt9117.2.1 bt9117.2.2.1).bind fun t9125 => (if t9125 = true then ((channel_Idle.f x9003000_5 x9003001_5 x9003002_5 x1_5).bind fun t9126 => ((customsref33_Idle.f x9003000_5 x9003001_5 x9003002_5 x1_5).bind fun t9127 => (if (t9126 == t9127) = true then ((customslaw38_awake.f kj5).bind fun t9128 => (some t9128)) else (none)))) else (none))) else (none)))) else (none))) else (none)))) else (none))) else (none)))) else (none))) else (none)))) else (none))) else (none)) else (none)))) = some r := by rw [if_pos rfl] at H; exact H
          clear H
          have H := H1
          clear H1
          replace H := Option.bind_eq_some_iff.mp H
          obtain ⟨⟨t9039, t9040, t9043, t9046, t9047⟩, A590, H⟩ := H
          try dsimp only at H
          have A59 := Aside0.mk A590
          clear A590
          replace H := Option.bind_eq_some_iff.mp H
          obtain ⟨⟨t9048, t9049, t9052, t9055, t9056⟩, A600, H⟩ := H
          try dsimp only at H
          have A60 := Aside0.mk A600
          clear A600
          replace H := if_some H; obtain ⟨c61, H⟩ := H
          have c61b0 : (t9047 == t9056) = true := beq_iff_eq.mpr c61
          have c61b1 : (t9047 != t9056) = false := bne_eq_false_iff_eq.mpr c61
          clear c61
          replace H := if_some H; obtain ⟨c62, H⟩ := H
          have c62b0 : (t9046 == t9055) = true := beq_iff_eq.mpr c62
          have c62b1 : (t9046 != t9055) = false := bne_eq_false_iff_eq.mpr c62
          clear c62
          replace H := Option.bind_eq_some_iff.mp H
          obtain ⟨t9057, A630, H⟩ := H
          try dsimp only at H
          have A63 := Aside0.mk A630
          clear A630
          by_cases c64 : t9057 = true
          · subst c64
            have H1 : ((channel_Lose.f x9003000_5 x9003001_5 x9003002_5 x2_5).bind fun bt9058 => ((customsref33_Lose.f x9003000_5 x9003001_5 x9003002_5 x2_5).bind fun bt9066 => (if bt9058.2.2.2 = bt9066.2.2.2 then ((customsref33_SameLine.f kj5 bt9058.1 bt9058.2.1 bt9058.2.2.1 bt9066.1 bt9066.2.1 bt9066.2.2.1).bind fun t9074 => (if t9074 = true then ((channel_Repeat.f x9003000_5 x9003001_5 x9003002_5 x2_5).bind fun bt9075 => ((customsref33_Repeat.f kj5 x9003000_5 x9003001_5 x9003002_5 x2_5).bind fun bt9083 => (if bt9075.2.2.2 = bt9083.2.2.2 then ((customsref33_SameLine.f kj5 bt9075.1 bt9075.2.1 bt9075.2.2.1 bt9083.1 bt9083.2.1 bt9083.2.2.1).bind fun t9091 => (if t9091 = true then ((channel_Confirm.f x9003000_5 x9003001_5 x9003002_5 x2_5).bind fun bt9092 => ((customsref33_Confirm.f x9003000_5 x9003001_5 x9003002_5 x2_5).bind fun bt9100 => (if bt9092.2.2.2 = bt9100.2.2.2 then ((customsref33_SameLine.f kj5 bt9092.1 bt9092.2.1 bt9092.2.2.1 bt9100.1 bt9100.2.1 bt9100.2.2.1).bind fun t9108 => (if t9108 = true then ((channel_Forget.f x9003000_5 x9003001_5 x9003002_5 x2_5).bind fun bt9109 => ((customsref33_Forget.f x9003000_5 x9003001_5 x9003002_5 x2_5).bind fun bt9117 => (if bt9109.2.2.2 = bt9117.2.2.2 then ((customsref33_SameLine.f kj5 bt9109.1 bt9109.2.1 bt9109.2.2.1 bt9117.1 bt9117.2.1 bt9117.2.2.1).bind fun t9125 => (if t9125 = true then ((channel_Idle.f x9003000_5 x9003001_5 x9003002_5 x1_5).bind fun t9126 => ((customsref33_Idle.f x9003000_5 x9003001_5 x9003002_5 x1_5).bind fun t9127 => (if (t9126 == t9127) = true then ((customslaw38_awake.f kj5).bind fun t9128 => (some t9128)) else (none)))) else (none))) else (none)))) else (none))) else (none)))) else (none))) else (none)))) else (none))) else (none)))) = some r := by rw [if_pos rfl] at H; exact H
            clear H
            have H := H1
            clear H1
            replace H := Option.bind_eq_some_iff.mp H
            obtain ⟨⟨t9058, t9059, t9062, t9065⟩, A650, H⟩ := H
            try dsimp only at H
            have A65 := Aside0.mk A650
            clear A650
            replace H := Option.bind_eq_some_iff.mp H
            obtain ⟨⟨t9066, t9067, t9070, t9073⟩, A660, H⟩ := H
            try dsimp only at H
            have A66 := Aside0.mk A660
            clear A660
            replace H := if_some H; obtain ⟨c67, H⟩ := H
            have c67b0 : (t9065 == t9073) = true := beq_iff_eq.mpr c67
            have c67b1 : (t9065 != t9073) = false := bne_eq_false_iff_eq.mpr c67
            clear c67
            replace H := Option.bind_eq_some_iff.mp H
            obtain ⟨t9074, A680, H⟩ := H
            try dsimp only at H
            have A68 := Aside0.mk A680
            clear A680
            by_cases c69 : t9074 = true
            · subst c69
              have H1 : ((channel_Repeat.f x9003000_5 x9003001_5 x9003002_5 x2_5).bind fun bt9075 => ((customsref33_Repeat.f kj5 x9003000_5 x9003001_5 x9003002_5 x2_5).bind fun bt9083 => (if bt9075.2.2.2 = bt9083.2.2.2 then ((customsref33_SameLine.f kj5 bt9075.1 bt9075.2.1 bt9075.2.2.1 bt9083.1 bt9083.2.1 bt9083.2.2.1).bind fun t9091 => (if t9091 = true then ((channel_Confirm.f x9003000_5 x9003001_5 x9003002_5 x2_5).bind fun bt9092 => ((customsref33_Confirm.f x9003000_5 x9003001_5 x9003002_5 x2_5).bind fun bt9100 => (if bt9092.2.2.2 = bt9100.2.2.2 then ((customsref33_SameLine.f kj5 bt9092.1 bt9092.2.1 bt9092.2.2.1 bt9100.1 bt9100.2.1 bt9100.2.2.1).bind fun t9108 => (if t9108 = true then ((channel_Forget.f x9003000_5 x9003001_5 x9003002_5 x2_5).bind fun bt9109 => ((customsref33_Forget.f x9003000_5 x9003001_5 x9003002_5 x2_5).bind fun bt9117 => (if bt9109.2.2.2 = bt9117.2.2.2 then ((customsref33_SameLine.f kj5 bt9109.1 bt9109.2.1 bt9109.2.2.1 bt9117.1 bt9117.2.1 bt9117.2.2.1).bind fun t9125 => (if t9125 = true then ((channel_Idle.f x9003000_5 x9003001_5 x9003002_5 x1_5).bind fun t9126 => ((customsref33_Idle.f x9003000_5 x9003001_5 x9003002_5 x1_5).bind fun t9127 => (if (t9126 == t9127) = true then ((customslaw38_awake.f kj5).bind fun t9128 => (some t9128)) else (none)))) else (none))) else (none)))) else (none))) else (none)))) else (none))) else (none)))) = some r := by rw [if_pos rfl] at H; exact H
              clear H
              have H := H1
              clear H1
              replace H := Option.bind_eq_some_iff.mp H
              obtain ⟨⟨t9075, t9076, t9079, t9082⟩, A700, H⟩ := H
              try dsimp only at H
              have A70 := Aside0.mk A700
              clear A700
              replace H := Option.bind_eq_some_iff.mp H
              obtain ⟨⟨t9083, t9084, t9087, t9090⟩, A710, H⟩ := H
              try dsimp only at H
              have A71 := Aside0.mk A710
              clear A710
              replace H := if_some H; obtain ⟨c72, H⟩ := H
              have c72b0 : (t9082 == t9090) = true := beq_iff_eq.mpr c72
              have c72b1 : (t9082 != t9090) = false := bne_eq_false_iff_eq.mpr c72
              clear c72
              replace H := Option.bind_eq_some_iff.mp H
              obtain ⟨t9091, A730, H⟩ := H
              try dsimp only at H
              have A73 := Aside0.mk A730
              clear A730
              by_cases c74 : t9091 = true
              · subst c74
                have H1 : ((channel_Confirm.f x9003000_5 x9003001_5 x9003002_5 x2_5).bind fun bt9092 => ((customsref33_Confirm.f x9003000_5 x9003001_5 x9003002_5 x2_5).bind fun bt9100 => (if bt9092.2.2.2 = bt9100.2.2.2 then ((customsref33_SameLine.f kj5 bt9092.1 bt9092.2.1 bt9092.2.2.1 bt9100.1 bt9100.2.1 bt9100.2.2.1).bind fun t9108 => (if t9108 = true then ((channel_Forget.f x9003000_5 x9003001_5 x9003002_5 x2_5).bind fun bt9109 => ((customsref33_Forget.f x9003000_5 x9003001_5 x9003002_5 x2_5).bind fun bt9117 => (if bt9109.2.2.2 = bt9117.2.2.2 then ((customsref33_SameLine.f kj5 bt9109.1 bt9109.2.1 bt9109.2.2.1 bt9117.1 bt9117.2.1 bt9117.2.2.1).bind fun t9125 => (if t9125 = true then ((channel_Idle.f x9003000_5 x9003001_5 x9003002_5 x1_5).bind fun t9126 => ((customsref33_Idle.f x9003000_5 x9003001_5 x9003002_5 x1_5).bind fun t9127 => (if (t9126 == t9127) = true then ((customslaw38_awake.f kj5).bind fun t9128 => (some t9128)) else (none)))) else (none))) else (none)))) else (none))) else (none)))) = some r := by rw [if_pos rfl] at H; exact H
                clear H
                have H := H1
                clear H1
                replace H := Option.bind_eq_some_iff.mp H
                obtain ⟨⟨t9092, t9093, t9096, t9099⟩, A750, H⟩ := H
                try dsimp only at H
                have A75 := Aside0.mk A750
                clear A750
                replace H := Option.bind_eq_some_iff.mp H
                obtain ⟨⟨t9100, t9101, t9104, t9107⟩, A760, H⟩ := H
                try dsimp only at H
                have A76 := Aside0.mk A760
                clear A760
                replace H := if_some H; obtain ⟨c77, H⟩ := H
                have c77b0 : (t9099 == t9107) = true := beq_iff_eq.mpr c77
                have c77b1 : (t9099 != t9107) = false := bne_eq_false_iff_eq.mpr c77
                clear c77
                replace H := Option.bind_eq_some_iff.mp H
                obtain ⟨t9108, A780, H⟩ := H
                try dsimp only at H
                have A78 := Aside0.mk A780
                clear A780
                by_cases c79 : t9108 = true
                · subst c79
                  have H1 : ((channel_Forget.f x9003000_5 x9003001_5 x9003002_5 x2_5).bind fun bt9109 => ((customsref33_Forget.f x9003000_5 x9003001_5 x9003002_5 x2_5).bind fun bt9117 => (if bt9109.2.2.2 = bt9117.2.2.2 then ((customsref33_SameLine.f kj5 bt9109.1 bt9109.2.1 bt9109.2.2.1 bt9117.1 bt9117.2.1 bt9117.2.2.1).bind fun t9125 => (if t9125 = true then ((channel_Idle.f x9003000_5 x9003001_5 x9003002_5 x1_5).bind fun t9126 => ((customsref33_Idle.f x9003000_5 x9003001_5 x9003002_5 x1_5).bind fun t9127 => (if (t9126 == t9127) = true then ((customslaw38_awake.f kj5).bind fun t9128 => (some t9128)) else (none)))) else (none))) else (none)))) = some r := by rw [if_pos rfl] at H; exact H
                  clear H
                  have H := H1
                  clear H1
                  replace H := Option.bind_eq_some_iff.mp H
                  obtain ⟨⟨t9109, t9110, t9113, t9116⟩, A800, H⟩ := H
                  try dsimp only at H
                  have A80 := Aside0.mk A800
                  clear A800
                  replace H := Option.bind_eq_some_iff.mp H
                  obtain ⟨⟨t9117, t9118, t9121, t9124⟩, A810, H⟩ := H
                  try dsimp only at H
                  have A81 := Aside0.mk A810
                  clear A810
                  by_cases c82 : t9116 = t9124
                  · rw [if_pos c82] at H
                    have c82b0 : (t9116 == t9124) = true := beq_iff_eq.mpr c82
                    have c82b1 : (t9116 != t9124) = false := bne_eq_false_iff_eq.mpr c82
                    clear c82
                    replace H := Option.bind_eq_some_iff.mp H
                    obtain ⟨t9125, A830, H⟩ := H
                    try dsimp only at H
                    have A83 := Aside0.mk A830
                    clear A830
                    by_cases c84 : t9125 = true
                    · subst c84
                      have H1 : ((channel_Idle.f x9003000_5 x9003001_5 x9003002_5 x1_5).bind fun t9126 => ((customsref33_Idle.f x9003000_5 x9003001_5 x9003002_5 x1_5).bind fun t9127 => (if (t9126 == t9127) = true then ((customslaw38_awake.f kj5).bind fun t9128 => (some t9128)) else (none)))) = some r := by rw [if_pos rfl] at H; exact H
                      clear H
                      have H := H1
                      clear H1
                      replace H := Option.bind_eq_some_iff.mp H
                      obtain ⟨t9126, A850, H⟩ := H
                      try dsimp only at H
                      have A85 := Aside0.mk A850
                      clear A850
                      replace H := Option.bind_eq_some_iff.mp H
                      obtain ⟨t9127, A860, H⟩ := H
                      try dsimp only at H
                      have A86 := Aside0.mk A860
                      clear A860
                      by_cases c87 : (t9126 == t9127) = true
                      · rw [if_pos c87] at H
                        have c87b0 : (t9126 == t9127) = true := c87
                        (try (have c87b1 : decide (t9126 = t9127) = true := by simpa using c87))
                        (try (have c87b2 : (t9126 == t9127) = true := by simpa using c87))
                        clear c87
                        replace H := Option.bind_eq_some_iff.mp H
                        obtain ⟨t9128, A880, H⟩ := H
                        try dsimp only at H
                        have A88 := Aside0.mk A880
                        clear A880
                        obtain rfl := Option.some.inj H
                        have hnb89 := NB9002_9001.out
                        have hnc89 := NB9001_9002.out
                        have hcz90_0 : wc.cell? ⟨gb9002, 0, none⟩ = some (.int .i64 x9003000_5) := (blk_cell BK9002.out 0).trans rfl
                        have hcz90_1 : wc.cell? ⟨gb9002, 1, none⟩ = some (u9003001) := (blk_cell BK9002.out 1).trans rfl
                        have hcz90_2 : wc.cell? ⟨gb9002, 2, none⟩ = some (u9003002) := (blk_cell BK9002.out 2).trans rfl
                        have hfz90_0 := blk_frozen BK9002.out 0
                        have hfz90_1 := blk_frozen BK9002.out 1
                        have hfz90_2 := blk_frozen BK9002.out 2
                        obtain ⟨Ao91, co91, eo91⟩ := Kd.V_slice HO_9003001.out
                        subst eo91
                        obtain ⟨Ao92, co92, eo92⟩ := Kd.V_slice HO_9003002.out
                        subst eo92
                        try go_wp2_with (first | ((with_reducible refine gate_callee (f := 37) rfl ?_); refine goesL_ (some 81) rfl rfl Try.func37 (by kernel_rfl) rfl #[.agg #[.int .i64 x9003000_5, .slice Ao91 x9003001_5.length co91, .slice Ao92 x9003002_5.length co92], .int .i64 x1_5] rfl (by (try simp only [List.map_toArray, List.map_cons, List.map_nil]); first | done | rfl | (simp only [List.length_drop, List.length_take]; rfl)) ?_; (with_reducible refine (channel_Transmit.calls kj5 x9003000_5 _ _ x9003001_5 _ _ x9003002_5 x1_5 t9020 t9021 t9024 t9027 _ ?side1 ?side2 ?side3 ?side4 A54.out).mono ?_); (case side1 => exact Kd.C_ext (Kd.V_reads' HO_9003001.out).2.2); (case side2 => exact (Kd.V_reads' HO_9003001.out).2.1); (case side3 => exact Kd.C_ext (Kd.V_reads' HO_9003002.out).2.2); (case side4 => exact (Kd.V_reads' HO_9003002.out).2.1); rintro e w93 ⟨v9022, v9025, rfl, ho0, ho1, hb⟩; refine ⟨_, rfl, ?_⟩; have n2_ := Aside0.mk (Kd.R_lower (Kd.R_newM (M := fun k_ => (w.heap.size ≤ k_)) ho0 (below_size (below_extB HB.out)) (fun k_ h_ => h_)) (below_size (below_extB HB.out))); have n3_ := Aside0.mk (Kd.R_lower (Kd.R_newM (M := fun k_ => (w.heap.size ≤ k_)) ho1 (below_size (below_extB HB.out)) (fun k_ h_ => h_)) (below_size (below_extB HB.out))); have HO9023 := n2_; have HO9026 := n3_; replace HO_9003001 := tdV2 HO_9003001 hb (Kd.R_base ho0) (Kd.R_base ho1); replace HO_9003002 := tdV2 HO_9003002 hb (Kd.R_base ho0) (Kd.R_base ho1); replace BK9001 := mvB BK9001 hb; replace BK9002 := mvB BK9002 hb; replace HB := mvH HB hb; clear n2_ n3_; (try clear hb); (try clear hb2); (try clear hk); (try clear hi); (try clear ho0); (try clear ho1)) | ((with_reducible refine gate_dst (N := 14) rfl ?_); refine box_event ?hg (N := 14) ?hd (cs := #[.int .i64 0, .slice none 0 0, .slice none 0 0]) (t := 44) ?hr ?_; (case hd => rfl); (case hg => rfl); (case hr => first | (go_simp; done) | (go_simp; rfl)); intro gb9028 hg w94 hbox hb; have n7_ := Aside0.mk (hbox); have n8_ := Aside0.mk ((by rw [hg]; exact (below_size (below_extB HB.out)) : w.heap.size ≤ gb9028)); have n9_ := Aside0.mk ((by rw [hg]; exact (below_size (below_extB HB.out)) : w.heap.size ≤ gb9028)); have n10_ := Aside0.mk ((by rw [hg]; exact Nat.ne_of_lt (blk_lt (blk_ext BK9001.out)) : gb9001 ≠ gb9028)); have n11_ := Aside0.mk ((by rw [hg]; exact Nat.ne_of_gt (blk_lt (blk_ext BK9001.out)) : gb9028 ≠ gb9001)); have n12_ := Aside0.mk ((by rw [hg]; exact Nat.ne_of_lt (blk_lt (blk_ext BK9002.out)) : gb9002 ≠ gb9028)); have n13_ := Aside0.mk ((by rw [hg]; exact Nat.ne_of_gt (blk_lt (blk_ext BK9002.out)) : gb9028 ≠ gb9002)); have BK9028 := n7_; have GW9028 := n8_; have GE9028 := n9_; have GI9028 := GE_.mk GE9028.out; have NB9001_9028 := n10_; have NI9001_9028 := NE_.mk NB9001_9028.out; have NB9028_9001 := n11_; have NI9028_9001 := NE_.mk NB9028_9001.out; have NB9002_9028 := n12_; have NI9002_9028 := NE_.mk NB9002_9028.out; have NB9028_9002 := n13_; have NI9028_9002 := NE_.mk NB9028_9002.out; replace HO_9003001 := awV HO_9003001 hb gb9028 hg; replace HO_9003002 := awV HO_9003002 hb gb9028 hg; replace HO9023 := mvR HO9023 hb; replace HO9026 := mvR HO9026 hb; replace BK9001 := mvB BK9001 hb; replace BK9002 := mvB BK9002 hb; replace HB := mvH HB hb; clear n7_ n8_ n9_ n10_ n11_ n12_ n13_; clear hb hbox hg; have hnb95 := NB9028_9001.out; have hnc95 := NB9001_9028.out; have hnb96 := NB9028_9002.out; have hnc96 := NB9002_9028.out; have hcz97_0 : w94.cell? ⟨gb9028, 0, none⟩ = some (.int .i64 0) := (blk_cell BK9028.out 0).trans rfl; have hcz97_1 : w94.cell? ⟨gb9028, 1, none⟩ = some (.slice none 0 0) := (blk_cell BK9028.out 1).trans rfl; have hcz97_2 : w94.cell? ⟨gb9028, 2, none⟩ = some (.slice none 0 0) := (blk_cell BK9028.out 2).trans rfl; have hfz97_0 := blk_frozen BK9028.out 0; have hfz97_1 := blk_frozen BK9028.out 1; have hfz97_2 := blk_frozen BK9028.out 2; obtain ⟨Ao98, co98, eo98⟩ := Kd.R_slice HO9023.out; subst eo98; obtain ⟨Ao99, co99, eo99⟩ := Kd.R_slice HO9026.out; subst eo99) | ((with_reducible refine gate_store (t := 44) (p := 14) rfl ?_); refine store_event (t := 44) (p := 14) (v := ?vo_w100) (w1 := (((w94.setCell ⟨gb9028, 0, none⟩ (.int .i64 t9020)).setCell ⟨gb9028, 1, none⟩ (.slice Ao98 t9021.length co98)).setCell ⟨gb9028, 2, none⟩ (.slice Ao99 t9024.length co99))) ?hg ?ho ?hn ?hr ?_; (case ho => rfl); (case hg => rfl); (case hn => rfl); (case hr => first | (go_simp; done) | (go_simp; rfl)); intro w100 hw; have n0_ : Aside0 (Kd.V (Kd.int .i64) 3 w100 w.heap.size (fun k_ => ((P0_1_ k_ ∨ P0_2_ k_) ∨ w.heap.size ≤ k_) ∧ some k_ ≠ (.slice Ao98 t9021.length co98 : Value).ownBlock ∧ some k_ ≠ (.slice Ao99 t9024.length co99 : Value).ownBlock ∧ k_ ≠ gb9001 ∧ k_ ≠ gb9002 ∧ k_ ≠ gb9028) (.slice Ao91 x9003001_5.length co91) x9003001_5) := ⟨(by rw [hw]; exact (Kd.V_ext (Kd.V_mono (Kd.V_far (p := ⟨gb9028, 2, none⟩) (Kd.V_far (p := ⟨gb9028, 1, none⟩) (Kd.V_far (p := ⟨gb9028, 0, none⟩) (Kd.V_mono HO_9003001.out (fun k_ hk => (⟨hk, hk.2⟩ : _ ∧ k_ ≠ gb9028))) (fun _ hk => hk.2) (.int .i64 t9020)) (fun _ hk => hk.2) (.slice Ao98 t9021.length co98)) (fun _ hk => hk.2) (.slice Ao99 t9024.length co99)) (fun _ hk => ⟨hk.1.1.1.1.1, ⟨hk.1.1.1.2, ⟨hk.1.1.2, ⟨hk.1.1.1.1.2.1, ⟨hk.1.1.1.1.2.2, hk.1.2⟩⟩⟩⟩⟩))))⟩; have n1_ : Aside0 (Kd.V (Kd.int .i64) 3 w100 w.heap.size (fun k_ => ((P0_1_ k_ ∨ P0_2_ k_) ∨ w.heap.size ≤ k_) ∧ some k_ ≠ (.slice Ao98 t9021.length co98 : Value).ownBlock ∧ some k_ ≠ (.slice Ao99 t9024.length co99 : Value).ownBlock ∧ k_ ≠ gb9001 ∧ k_ ≠ gb9002 ∧ k_ ≠ gb9028) (.slice Ao92 x9003002_5.length co92) x9003002_5) := ⟨(by rw [hw]; exact (Kd.V_ext (Kd.V_mono (Kd.V_far (p := ⟨gb9028, 2, none⟩) (Kd.V_far (p := ⟨gb9028, 1, none⟩) (Kd.V_far (p := ⟨gb9028, 0, none⟩) (Kd.V_mono HO_9003002.out (fun k_ hk => (⟨hk, hk.2⟩ : _ ∧ k_ ≠ gb9028))) (fun _ hk => hk.2) (.int .i64 t9020)) (fun _ hk => hk.2) (.slice Ao98 t9021.length co98)) (fun _ hk => hk.2) (.slice Ao99 t9024.length co99)) (fun _ hk => ⟨hk.1.1.1.1.1, ⟨hk.1.1.1.2, ⟨hk.1.1.2, ⟨hk.1.1.1.1.2.1, ⟨hk.1.1.1.1.2.2, hk.1.2⟩⟩⟩⟩⟩))))⟩; have n2_ : Aside0 (Kd.R (Kd.int .i64) 3 w100 w.heap.size (fun k_ => (w.heap.size ≤ k_) ∧ some k_ ≠ (.slice Ao99 t9024.length co99 : Value).ownBlock) (.slice Ao98 t9021.length co98) t9021) := ⟨(by rw [hw]; exact (Kd.R_ext (Kd.R_mono (Kd.R_far (p := ⟨gb9028, 2, none⟩) (Kd.R_far (p := ⟨gb9028, 1, none⟩) (Kd.R_far (p := ⟨gb9028, 0, none⟩) (Kd.R_types HO9023.out BK9028.out (by decide)) (fun _ hk => hk.2) (.int .i64 t9020)) (fun _ hk => hk.2) (.slice Ao98 t9021.length co98)) (fun _ hk => hk.2) (.slice Ao99 t9024.length co99)) (fun _ hk => ⟨hk.1.1, hk.1.2⟩))))⟩; have n3_ : Aside0 (Kd.R (Kd.int .i64) 3 w100 w.heap.size (fun k_ => (w.heap.size ≤ k_) ∧ some k_ ≠ (.slice Ao98 t9021.length co98 : Value).ownBlock) (.slice Ao99 t9024.length co99) t9024) := ⟨(by rw [hw]; exact (Kd.R_ext (Kd.R_mono (Kd.R_far (p := ⟨gb9028, 2, none⟩) (Kd.R_far (p := ⟨gb9028, 1, none⟩) (Kd.R_far (p := ⟨gb9028, 0, none⟩) (Kd.R_types HO9026.out BK9028.out (by decide)) (fun _ hk => hk.2) (.int .i64 t9020)) (fun _ hk => hk.2) (.slice Ao98 t9021.length co98)) (fun _ hk => hk.2) (.slice Ao99 t9024.length co99)) (fun _ hk => ⟨hk.1.1, hk.1.2⟩))))⟩; have n4_ : Aside0 (w100.heap[gb9001]? = some (.cells #[.int .i64 a0_0, .slice A0_1 l0_1.length c0_1, .slice A0_2 l0_2.length c0_2] 44 (0, 0))) := ⟨(by rw [hw]; exact (blk_extC BK9001.out))⟩; have n5_ : Aside0 (w100.heap[gb9002]? = some (.cells #[.int .i64 x9003000_5, .slice Ao91 x9003001_5.length co91, .slice Ao92 x9003002_5.length co92] 44 (0, 0))) := ⟨(by rw [hw]; exact (blk_extC BK9002.out))⟩; have n6_ : Aside0 (w100.heap[gb9028]? = some (.cells #[.int .i64 t9020, .slice Ao98 t9021.length co98, .slice Ao99 t9024.length co99] 44 (0, 0))) := ⟨(by rw [hw]; exact (by (with_reducible repeat (first | refine blk_drewN ?_ _ | refine blk_drew ?_ | refine blk_alloc ?_ _)); refine blk_put (cs := #[.int .i64 t9020, .slice Ao98 t9021.length co98, .slice none 0 0]) ?_ 2 _ rfl; (with_reducible repeat (first | refine blk_drewN ?_ _ | refine blk_drew ?_ | refine blk_alloc ?_ _)); refine blk_put (cs := #[.int .i64 t9020, .slice none 0 0, .slice none 0 0]) ?_ 1 _ rfl; (with_reducible repeat (first | refine blk_drewN ?_ _ | refine blk_drew ?_ | refine blk_alloc ?_ _)); refine blk_put (cs := #[.int .i64 0, .slice none 0 0, .slice none 0 0]) ?_ 0 _ rfl; exact blk_ext BK9028.out))⟩; have n7_ : Aside0 (Below w.heap.size w w100) := ⟨(by rw [hw]; exact (below_extB HB.out))⟩; clear hw; clear HO_9003001; clear HO_9003002; clear HO9023; clear HO9026; clear BK9001; clear BK9002; clear BK9028; clear HB; have HO_9003001 := n0_; have HO_9003002 := n1_; have HO9023 := n2_; have HO9026 := n3_; have BK9001 := n4_; have BK9002 := n5_; have BK9028 := n6_; have HB := n7_; clear n0_ n1_ n2_ n3_ n4_ n5_ n6_ n7_; have hcz101_0 : w100.cell? ⟨gb9002, 0, none⟩ = some (.int .i64 x9003000_5) := (blk_cell BK9002.out 0).trans rfl; have hcz101_1 : w100.cell? ⟨gb9002, 1, none⟩ = some (.slice Ao91 x9003001_5.length co91) := (blk_cell BK9002.out 1).trans rfl; have hcz101_2 : w100.cell? ⟨gb9002, 2, none⟩ = some (.slice Ao92 x9003002_5.length co92) := (blk_cell BK9002.out 2).trans rfl; have hfz101_0 := blk_frozen BK9002.out 0; have hfz101_1 := blk_frozen BK9002.out 1; have hfz101_2 := blk_frozen BK9002.out 2) | ((with_reducible refine gate_callee (f := 38) rfl ?_); refine goesL_ (some 87) rfl rfl Try.func38 (by kernel_rfl) rfl #[.agg #[.int .i64 x9003000_5, .slice Ao91 x9003001_5.length co91, .slice Ao92 x9003002_5.length co92], .int .i64 x1_5] rfl (by (try simp only [List.map_toArray, List.map_cons, List.map_nil]); first | done | rfl | (simp only [List.length_drop, List.length_take]; rfl)) ?_; (with_reducible refine (customsref33_Transmit.calls kj5 x9003000_5 _ _ x9003001_5 (fun k_ => (((P0_1_ k_ ∨ P0_2_ k_) ∨ w.heap.size ≤ k_) ∧ (some k_ ≠ (.slice Ao98 t9021.length co98 : Value).ownBlock ∧ (some k_ ≠ (.slice Ao99 t9024.length co99 : Value).ownBlock ∧ (k_ ≠ gb9001 ∧ (k_ ≠ gb9002 ∧ k_ ≠ gb9028)))))) _ _ x9003002_5 x1_5 t9029 t9030 t9033 t9036 _ ?side1 ?side2 ?side3 A55.out).mono ?_); (case side1 => exact Kd.C_ext (Kd.V_reads' HO_9003001.out).2.2); (case side2 => exact (Kd.V_reads' HO_9003001.out).2.1); (case side3 => exact HO_9003002.out); rintro e w102 ⟨v9031, v9034, rfl, ho0, ho1, hb⟩; refine ⟨_, rfl, ?_⟩; have n4_ := Aside0.mk (Kd.R_lower (Kd.R_new' (Kd.R_new' (Kd.R_newM (M := fun k_ => (w.heap.size ≤ k_)) (Kd.R_mono (ok' := fun k_ => True) ho0 (fun _ hk_ => trivial)) (below_size (below_extB HB.out)) (fun k_ h_ => h_)) (Kd.R_lt (Kd.R_ext HO9023.out))) (Kd.R_lt (Kd.R_ext HO9026.out))) (below_size (below_extB HB.out))); have n5_ := Aside0.mk (Kd.V_lower (Kd.V_mono (ok' := fun k_ => ((P0_1_ k_ ∨ P0_2_ k_) ∨ w.heap.size ≤ k_) ∧ some k_ ≠ (v9031 : Value).ownBlock ∧ some k_ ≠ (.slice Ao98 t9021.length co98 : Value).ownBlock ∧ some k_ ≠ (.slice Ao99 t9024.length co99 : Value).ownBlock ∧ k_ ≠ gb9001 ∧ k_ ≠ gb9002 ∧ k_ ≠ gb9028) ho1 (fun k_ hk_ => ⟨Or.elim hk_.1 (fun hs_ => hs_.1) (fun hn_ => (.inr (Nat.le_trans (below_size (below_extB HB.out)) hn_))), hk_.2, Or.elim hk_.1 (fun hs_ => hs_.2.1) (fun hn_ => (Kd.fresh' (Kd.R_lt (Kd.R_ext HO9023.out)) k_ hn_)), Or.elim hk_.1 (fun hs_ => hs_.2.2.1) (fun hn_ => (Kd.fresh' (Kd.R_lt (Kd.R_ext HO9026.out)) k_ hn_)), Or.elim hk_.1 (fun hs_ => hs_.2.2.2.1) (fun hn_ => (Kd.freshB (blk_ext BK9001.out) k_ hn_)), Or.elim hk_.1 (fun hs_ => hs_.2.2.2.2.1) (fun hn_ => (Kd.freshB (blk_ext BK9002.out) k_ hn_)), Or.elim hk_.1 (fun hs_ => hs_.2.2.2.2.2) (fun hn_ => (Kd.freshB (blk_ext BK9028.out) k_ hn_))⟩)) (below_size (below_extB HB.out))); have HO9032 := n4_; have HO9035 := n5_; replace HO_9003001 := apV HO_9003001 hb (Kd.R_base ho0); replace HO_9003002 := apV HO_9003002 hb (Kd.R_base ho0); replace HO9023 := apR HO9023 hb (Kd.R_base ho0); replace HO9026 := apR HO9026 hb (Kd.R_base ho0); replace BK9001 := mvB BK9001 hb; replace BK9002 := mvB BK9002 hb; replace BK9028 := mvB BK9028 hb; replace HB := mvH HB hb; clear n4_ n5_; (try clear hb); (try clear hb2); (try clear hk); (try clear hi); (try clear ho0); (try clear ho1)) | ((with_reducible refine gate_dst (N := 16) rfl ?_); refine box_event ?hg (N := 16) ?hd (cs := #[.int .i64 0, .slice none 0 0, .slice none 0 0]) (t := 44) ?hr ?_; (case hd => rfl); (case hg => rfl); (case hr => first | (go_simp; done) | (go_simp; rfl)); intro gb9037 hg w103 hbox hb; have n10_ := Aside0.mk (hbox); have n11_ := Aside0.mk ((by rw [hg]; exact (below_size (below_extB HB.out)) : w.heap.size ≤ gb9037)); have n12_ := Aside0.mk ((by rw [hg]; exact (below_size (below_extB HB.out)) : w.heap.size ≤ gb9037)); have n13_ := Aside0.mk ((by rw [hg]; exact Nat.ne_of_lt (blk_lt (blk_ext BK9001.out)) : gb9001 ≠ gb9037)); have n14_ := Aside0.mk ((by rw [hg]; exact Nat.ne_of_gt (blk_lt (blk_ext BK9001.out)) : gb9037 ≠ gb9001)); have n15_ := Aside0.mk ((by rw [hg]; exact Nat.ne_of_lt (blk_lt (blk_ext BK9002.out)) : gb9002 ≠ gb9037)); have n16_ := Aside0.mk ((by rw [hg]; exact Nat.ne_of_gt (blk_lt (blk_ext BK9002.out)) : gb9037 ≠ gb9002)); have n17_ := Aside0.mk ((by rw [hg]; exact Nat.ne_of_lt (blk_lt (blk_ext BK9028.out)) : gb9028 ≠ gb9037)); have n18_ := Aside0.mk ((by rw [hg]; exact Nat.ne_of_gt (blk_lt (blk_ext BK9028.out)) : gb9037 ≠ gb9028)); have BK9037 := n10_; have GW9037 := n11_; have GE9037 := n12_; have GI9037 := GE_.mk GE9037.out; have NB9001_9037 := n13_; have NI9001_9037 := NE_.mk NB9001_9037.out; have NB9037_9001 := n14_; have NI9037_9001 := NE_.mk NB9037_9001.out; have NB9002_9037 := n15_; have NI9002_9037 := NE_.mk NB9002_9037.out; have NB9037_9002 := n16_; have NI9037_9002 := NE_.mk NB9037_9002.out; have NB9028_9037 := n17_; have NI9028_9037 := NE_.mk NB9028_9037.out; have NB9037_9028 := n18_; have NI9037_9028 := NE_.mk NB9037_9028.out; replace HO_9003001 := awV HO_9003001 hb gb9037 hg; replace HO_9003002 := awV HO_9003002 hb gb9037 hg; replace HO9023 := mvR HO9023 hb; replace HO9026 := mvR HO9026 hb; replace HO9032 := mvR HO9032 hb; replace HO9035 := awV HO9035 hb gb9037 hg; replace BK9001 := mvB BK9001 hb; replace BK9002 := mvB BK9002 hb; replace BK9028 := mvB BK9028 hb; replace HB := mvH HB hb; clear n10_ n11_ n12_ n13_ n14_ n15_ n16_ n17_ n18_; clear hb hbox hg; have hnb104 := NB9037_9001.out; have hnc104 := NB9001_9037.out; have hnb105 := NB9037_9002.out; have hnc105 := NB9002_9037.out; have hnb106 := NB9037_9028.out; have hnc106 := NB9028_9037.out; have hcz107_0 : w103.cell? ⟨gb9037, 0, none⟩ = some (.int .i64 0) := (blk_cell BK9037.out 0).trans rfl; have hcz107_1 : w103.cell? ⟨gb9037, 1, none⟩ = some (.slice none 0 0) := (blk_cell BK9037.out 1).trans rfl; have hcz107_2 : w103.cell? ⟨gb9037, 2, none⟩ = some (.slice none 0 0) := (blk_cell BK9037.out 2).trans rfl; have hfz107_0 := blk_frozen BK9037.out 0; have hfz107_1 := blk_frozen BK9037.out 1; have hfz107_2 := blk_frozen BK9037.out 2; obtain ⟨Ao108, co108, eo108⟩ := Kd.R_slice HO9032.out; subst eo108; obtain ⟨Ao109, co109, eo109⟩ := Kd.V_slice HO9035.out; subst eo109; have hcz110_0 : w103.cell? ⟨gb9028, 0, none⟩ = some (.int .i64 t9020) := (blk_cell BK9028.out 0).trans rfl; have hcz110_1 : w103.cell? ⟨gb9028, 1, none⟩ = some (.slice Ao98 t9021.length co98) := (blk_cell BK9028.out 1).trans rfl; have hcz110_2 : w103.cell? ⟨gb9028, 2, none⟩ = some (.slice Ao99 t9024.length co99) := (blk_cell BK9028.out 2).trans rfl; have hfz110_0 := blk_frozen BK9028.out 0; have hfz110_1 := blk_frozen BK9028.out 1; have hfz110_2 := blk_frozen BK9028.out 2) | (go_at_call 35; (with_reducible refine (customsref33_SameLine.calls kj5 t9020 _ _ t9021 _ _ t9024 t9029 _ _ t9030 _ _ t9033 true _ ?side1 ?side2 ?side3 ?side4 ?side5 ?side6 ?side7 ?side8 A57.out).mono ?_); (case side1 => refine (Kd.R_reads' (e := 3) (base := w.heap.size) (ok := fun k_ => (((w.heap.size ≤ k_) ∧ some k_ ≠ (.slice Ao99 t9024.length co99 : Value).ownBlock) ∧ some k_ ≠ (.slice Ao108 t9030.length co108 : Value).ownBlock)) (n := t9021.length) (c := co98) ?_).2.2; exact (Kd.R_ext ((Kd.R_mono (Kd.R_far (p := ⟨gb9037, 2, none⟩) (Kd.R_far (p := ⟨gb9037, 1, none⟩) (Kd.R_far (p := ⟨gb9037, 0, none⟩) (Kd.R_types HO9023.out BK9037.out (by decide)) (fun _ hk => hk.2) (.int .i64 t9029)) (fun _ hk => hk.2) (.slice Ao108 t9030.length co108)) (fun _ hk => hk.2) (.slice Ao109 t9033.length co109)) (fun _ h_ => h_.1))))); (case side2 => exact (Kd.R_reads' HO9023.out).2.1); (case side3 => refine (Kd.R_reads' (e := 3) (base := w.heap.size) (ok := fun k_ => (((w.heap.size ≤ k_) ∧ some k_ ≠ (.slice Ao98 t9021.length co98 : Value).ownBlock) ∧ some k_ ≠ (.slice Ao108 t9030.length co108 : Value).ownBlock)) (n := t9024.length) (c := co99) ?_).2.2; exact (Kd.R_ext ((Kd.R_mono (Kd.R_far (p := ⟨gb9037, 2, none⟩) (Kd.R_far (p := ⟨gb9037, 1, none⟩) (Kd.R_far (p := ⟨gb9037, 0, none⟩) (Kd.R_types HO9026.out BK9037.out (by decide)) (fun _ hk => hk.2) (.int .i64 t9029)) (fun _ hk => hk.2) (.slice Ao108 t9030.length co108)) (fun _ hk => hk.2) (.slice Ao109 t9033.length co109)) (fun _ h_ => h_.1))))); (case side4 => exact (Kd.R_reads' HO9026.out).2.1); (case side5 => refine (Kd.R_reads' (e := 3) (base := w.heap.size) (ok := fun k_ => ((((w.heap.size ≤ k_) ∧ True) ∧ some k_ ≠ (.slice Ao98 t9021.length co98 : Value).ownBlock) ∧ some k_ ≠ (.slice Ao99 t9024.length co99 : Value).ownBlock)) (n := t9030.length) (c := co108) ?_).2.2; exact (Kd.R_ext ((Kd.R_mono (Kd.R_far (p := ⟨gb9037, 2, none⟩) (Kd.R_far (p := ⟨gb9037, 1, none⟩) (Kd.R_far (p := ⟨gb9037, 0, none⟩) (Kd.R_types HO9032.out BK9037.out (by decide)) (fun _ hk => hk.2) (.int .i64 t9029)) (fun _ hk => hk.2) (.slice Ao108 t9030.length co108)) (fun _ hk => hk.2) (.slice Ao109 t9033.length co109)) (fun _ h_ => h_.1))))); (case side6 => exact (Kd.R_reads' HO9032.out).2.1); (case side7 => refine (Kd.V_reads' (e := 3) (base := w.heap.size) (ok := fun k_ => (((((P0_1_ k_ ∨ P0_2_ k_) ∨ w.heap.size ≤ k_)) ∧ (some k_ ≠ (.slice Ao108 t9030.length co108 : Value).ownBlock ∧ (some k_ ≠ (.slice Ao98 t9021.length co98 : Value).ownBlock ∧ (some k_ ≠ (.slice Ao99 t9024.length co99 : Value).ownBlock ∧ (k_ ≠ gb9001 ∧ (k_ ≠ gb9002 ∧ k_ ≠ gb9028)))))) ∧ k_ ≠ gb9037)) (n := t9033.length) (c := co109) ?_).2.2; exact (Kd.V_ext ((Kd.V_mono (Kd.V_far (p := ⟨gb9037, 2, none⟩) (Kd.V_far (p := ⟨gb9037, 1, none⟩) (Kd.V_far (p := ⟨gb9037, 0, none⟩) (Kd.V_mono HO9035.out (fun k_ hk => (⟨hk, hk.2⟩ : _ ∧ k_ ≠ gb9037))) (fun _ hk => hk.2) (.int .i64 t9029)) (fun _ hk => hk.2) (.slice Ao108 t9030.length co108)) (fun _ hk => hk.2) (.slice Ao109 t9033.length co109)) (fun _ h_ => h_.1))))); (case side8 => exact (Kd.V_reads' HO9035.out).2.1); rintro e w111 ⟨rfl, hb⟩; have n0_ := Aside0.mk (Kd.V_below (Kd.V_ext ((Kd.V_mono (Kd.V_far (p := ⟨gb9037, 2, none⟩) (Kd.V_far (p := ⟨gb9037, 1, none⟩) (Kd.V_far (p := ⟨gb9037, 0, none⟩) (Kd.V_mono HO_9003001.out (fun k_ hk => (⟨hk, hk.2⟩ : _ ∧ k_ ≠ gb9037))) (fun _ hk => hk.2) (.int .i64 t9029)) (fun _ hk => hk.2) (.slice Ao108 t9030.length co108)) (fun _ hk => hk.2) (.slice Ao109 t9033.length co109)) (fun _ h_ => h_.1)))) hb); have n1_ := Aside0.mk (Kd.V_below (Kd.V_ext ((Kd.V_mono (Kd.V_far (p := ⟨gb9037, 2, none⟩) (Kd.V_far (p := ⟨gb9037, 1, none⟩) (Kd.V_far (p := ⟨gb9037, 0, none⟩) (Kd.V_mono HO_9003002.out (fun k_ hk => (⟨hk, hk.2⟩ : _ ∧ k_ ≠ gb9037))) (fun _ hk => hk.2) (.int .i64 t9029)) (fun _ hk => hk.2) (.slice Ao108 t9030.length co108)) (fun _ hk => hk.2) (.slice Ao109 t9033.length co109)) (fun _ h_ => h_.1)))) hb); have n2_ := Aside0.mk (Kd.R_below (Kd.R_ext ((Kd.R_mono (Kd.R_far (p := ⟨gb9037, 2, none⟩) (Kd.R_far (p := ⟨gb9037, 1, none⟩) (Kd.R_far (p := ⟨gb9037, 0, none⟩) (Kd.R_types HO9023.out BK9037.out (by decide)) (fun _ hk => hk.2) (.int .i64 t9029)) (fun _ hk => hk.2) (.slice Ao108 t9030.length co108)) (fun _ hk => hk.2) (.slice Ao109 t9033.length co109)) (fun _ h_ => h_.1)))) hb); have n3_ := Aside0.mk (Kd.R_below (Kd.R_ext ((Kd.R_mono (Kd.R_far (p := ⟨gb9037, 2, none⟩) (Kd.R_far (p := ⟨gb9037, 1, none⟩) (Kd.R_far (p := ⟨gb9037, 0, none⟩) (Kd.R_types HO9026.out BK9037.out (by decide)) (fun _ hk => hk.2) (.int .i64 t9029)) (fun _ hk => hk.2) (.slice Ao108 t9030.length co108)) (fun _ hk => hk.2) (.slice Ao109 t9033.length co109)) (fun _ h_ => h_.1)))) hb); have n4_ := Aside0.mk (Kd.R_below (Kd.R_ext ((Kd.R_mono (Kd.R_far (p := ⟨gb9037, 2, none⟩) (Kd.R_far (p := ⟨gb9037, 1, none⟩) (Kd.R_far (p := ⟨gb9037, 0, none⟩) (Kd.R_types HO9032.out BK9037.out (by decide)) (fun _ hk => hk.2) (.int .i64 t9029)) (fun _ hk => hk.2) (.slice Ao108 t9030.length co108)) (fun _ hk => hk.2) (.slice Ao109 t9033.length co109)) (fun _ h_ => h_.1)))) hb); have n5_ := Aside0.mk (Kd.V_below (Kd.V_ext ((Kd.V_mono (Kd.V_far (p := ⟨gb9037, 2, none⟩) (Kd.V_far (p := ⟨gb9037, 1, none⟩) (Kd.V_far (p := ⟨gb9037, 0, none⟩) (Kd.V_mono HO9035.out (fun k_ hk => (⟨hk, hk.2⟩ : _ ∧ k_ ≠ gb9037))) (fun _ hk => hk.2) (.int .i64 t9029)) (fun _ hk => hk.2) (.slice Ao108 t9030.length co108)) (fun _ hk => hk.2) (.slice Ao109 t9033.length co109)) (fun _ h_ => h_.1)))) hb); have n6_ := Aside0.mk (blk_below (blk_extC BK9001.out) hb); have n7_ := Aside0.mk (blk_below (blk_extC BK9002.out) hb); have n8_ := Aside0.mk (blk_below (blk_extC BK9028.out) hb); have n9_ := Aside0.mk (blk_below (g := gb9037) (o := .cells #[.int .i64 t9029, .slice Ao108 t9030.length co108, .slice Ao109 t9033.length co109] 44 (0, 0)) (by (with_reducible repeat (first | refine blk_drewN ?_ _ | refine blk_drew ?_ | refine blk_alloc ?_ _)); refine blk_put (cs := #[.int .i64 t9029, .slice Ao108 t9030.length co108, .slice none 0 0]) ?_ 2 _ rfl; (with_reducible repeat (first | refine blk_drewN ?_ _ | refine blk_drew ?_ | refine blk_alloc ?_ _)); refine blk_put (cs := #[.int .i64 t9029, .slice none 0 0, .slice none 0 0]) ?_ 1 _ rfl; (with_reducible repeat (first | refine blk_drewN ?_ _ | refine blk_drew ?_ | refine blk_alloc ?_ _)); refine blk_put (cs := #[.int .i64 0, .slice none 0 0, .slice none 0 0]) ?_ 0 _ rfl; exact blk_ext BK9037.out) hb); clear HO_9003001; clear HO_9003002; clear HO9023; clear HO9026; clear HO9032; clear HO9035; clear BK9001; clear BK9002; clear BK9028; clear BK9037; have HO_9003001 := n0_; have HO_9003002 := n1_; have HO9023 := n2_; have HO9026 := n3_; have HO9032 := n4_; have HO9035 := n5_; have BK9001 := n6_; have BK9002 := n7_; have BK9028 := n8_; have BK9037 := n9_; replace HB := mvH HB hb; clear n0_ n1_ n2_ n3_ n4_ n5_ n6_ n7_ n8_ n9_; (try clear hb); (try clear hb2); (try clear hk); (try clear hi); have hcz112_0 : w111.cell? ⟨gb9002, 0, none⟩ = some (.int .i64 x9003000_5) := (blk_cell BK9002.out 0).trans rfl; have hcz112_1 : w111.cell? ⟨gb9002, 1, none⟩ = some (.slice Ao91 x9003001_5.length co91) := (blk_cell BK9002.out 1).trans rfl; have hcz112_2 : w111.cell? ⟨gb9002, 2, none⟩ = some (.slice Ao92 x9003002_5.length co92) := (blk_cell BK9002.out 2).trans rfl; have hfz112_0 := blk_frozen BK9002.out 0; have hfz112_1 := blk_frozen BK9002.out 1; have hfz112_2 := blk_frozen BK9002.out 2) | ((with_reducible refine gate_callee (f := 39) rfl ?_); refine goesL_ (some 103) rfl rfl Try.func39 (by kernel_rfl) rfl #[.agg #[.int .i64 x9003000_5, .slice Ao91 x9003001_5.length co91, .slice Ao92 x9003002_5.length co92], .int .i64 x2_5, .int .i64 x3_5] rfl (by (try simp only [List.map_toArray, List.map_cons, List.map_nil]); first | done | rfl | (simp only [List.length_drop, List.length_take]; rfl)) ?_; (with_reducible refine (channel_Deliver.calls kj5 x9003000_5 _ _ x9003001_5 _ _ x9003002_5 x2_5 x3_5 t9039 t9040 t9043 t9046 t9047 _ ?side1 ?side2 ?side3 ?side4 A59.out).mono ?_); (case side1 => exact Kd.C_ext (Kd.V_reads' HO_9003001.out).2.2); (case side2 => exact (Kd.V_reads' HO_9003001.out).2.1); (case side3 => exact Kd.C_ext (Kd.V_reads' HO_9003002.out).2.2); (case side4 => exact (Kd.V_reads' HO_9003002.out).2.1); rintro e w113 ⟨v9041, v9044, rfl, ho0, ho1, hb⟩; refine ⟨_, rfl, ?_⟩; have n2_ := Aside0.mk (Kd.R_lower (Kd.R_newM (M := fun k_ => (w.heap.size ≤ k_)) ho0 (below_size (below_extB HB.out)) (fun k_ h_ => h_)) (below_size (below_extB HB.out))); have n3_ := Aside0.mk (Kd.R_lower (Kd.R_newM (M := fun k_ => (w.heap.size ≤ k_)) ho1 (below_size (below_extB HB.out)) (fun k_ h_ => h_)) (below_size (below_extB HB.out))); have HO9042 := n2_; have HO9045 := n3_; replace HO_9003001 := tdV2 HO_9003001 hb (Kd.R_base ho0) (Kd.R_base ho1); replace HO_9003002 := tdV2 HO_9003002 hb (Kd.R_base ho0) (Kd.R_base ho1); replace BK9001 := mvB BK9001 hb; replace BK9002 := mvB BK9002 hb; replace BK9028 := mvB BK9028 hb; replace BK9037 := mvB BK9037 hb; replace HB := mvH HB hb; clear n2_ n3_; (try clear hb); (try clear hb2); (try clear hk); (try clear hi); (try clear ho0); (try clear ho1); have hcz114_0 : w113.cell? ⟨gb9028, 0, none⟩ = some (.int .i64 t9020) := (blk_cell BK9028.out 0).trans rfl; have hcz114_1 : w113.cell? ⟨gb9028, 1, none⟩ = some (.slice Ao98 t9021.length co98) := (blk_cell BK9028.out 1).trans rfl; have hcz114_2 : w113.cell? ⟨gb9028, 2, none⟩ = some (.slice Ao99 t9024.length co99) := (blk_cell BK9028.out 2).trans rfl; have hfz114_0 := blk_frozen BK9028.out 0; have hfz114_1 := blk_frozen BK9028.out 1; have hfz114_2 := blk_frozen BK9028.out 2; obtain ⟨Ao115, co115, eo115⟩ := Kd.R_slice HO9042.out; subst eo115; obtain ⟨Ao116, co116, eo116⟩ := Kd.R_slice HO9045.out; subst eo116; have hcz117_0 : w113.cell? ⟨gb9002, 0, none⟩ = some (.int .i64 x9003000_5) := (blk_cell BK9002.out 0).trans rfl; have hcz117_1 : w113.cell? ⟨gb9002, 1, none⟩ = some (.slice Ao91 x9003001_5.length co91) := (blk_cell BK9002.out 1).trans rfl; have hcz117_2 : w113.cell? ⟨gb9002, 2, none⟩ = some (.slice Ao92 x9003002_5.length co92) := (blk_cell BK9002.out 2).trans rfl; have hfz117_0 := blk_frozen BK9002.out 0; have hfz117_1 := blk_frozen BK9002.out 1; have hfz117_2 := blk_frozen BK9002.out 2) | ((with_reducible refine gate_callee (f := 40) rfl ?_); refine goesL_ (some 111) rfl rfl Try.func40 (by kernel_rfl) rfl #[.agg #[.int .i64 x9003000_5, .slice Ao91 x9003001_5.length co91, .slice Ao92 x9003002_5.length co92], .int .i64 x2_5, .int .i64 x3_5] rfl (by (try simp only [List.map_toArray, List.map_cons, List.map_nil]); first | done | rfl | (simp only [List.length_drop, List.length_take]; rfl)) ?_; (with_reducible refine (customsref33_Deliver.calls kj5 x9003000_5 _ _ x9003001_5 _ _ x9003002_5 x2_5 x3_5 t9048 t9049 t9052 t9055 t9056 _ ?side1 ?side2 ?side3 ?side4 A60.out).mono ?_); (case side1 => refine (Kd.V_reads' (e := 3) (base := w.heap.size) (ok := fun k_ => ((((((((P0_1_ k_ ∨ P0_2_ k_) ∨ w.heap.size ≤ k_)) ∧ (some k_ ≠ (.slice Ao98 t9021.length co98 : Value).ownBlock ∧ (some k_ ≠ (.slice Ao99 t9024.length co99 : Value).ownBlock ∧ (k_ ≠ gb9001 ∧ (k_ ≠ gb9002 ∧ k_ ≠ gb9028))))) ∧ some k_ ≠ (.slice Ao108 t9030.length co108 : Value).ownBlock) ∧ k_ ≠ gb9037) ∧ some k_ ≠ (.slice Ao115 t9040.length co115 : Value).ownBlock) ∧ some k_ ≠ (.slice Ao116 t9043.length co116 : Value).ownBlock)) (n := x9003001_5.length) (c := co91) ?_).2.2; exact (Kd.V_ext ((Kd.V_mono (Kd.V_far (p := ⟨gb9028, 2, none⟩) (Kd.V_far (p := ⟨gb9028, 1, none⟩) (Kd.V_far (p := ⟨gb9028, 0, none⟩) (Kd.V_mono HO_9003001.out (fun k_ hk => (⟨hk, hk.1.1.1.1.2.2.2.2.2⟩ : _ ∧ k_ ≠ gb9028))) (fun _ hk => hk.2) (.int .i64 t9039)) (fun _ hk => hk.2) (.slice Ao115 t9040.length co115)) (fun _ hk => hk.2) (.slice Ao116 t9043.length co116)) (fun _ h_ => h_.1))))); (case side2 => exact (Kd.V_reads' HO_9003001.out).2.1); (case side3 => refine (Kd.V_reads' (e := 3) (base := w.heap.size) (ok := fun k_ => ((((((((P0_1_ k_ ∨ P0_2_ k_) ∨ w.heap.size ≤ k_)) ∧ (some k_ ≠ (.slice Ao98 t9021.length co98 : Value).ownBlock ∧ (some k_ ≠ (.slice Ao99 t9024.length co99 : Value).ownBlock ∧ (k_ ≠ gb9001 ∧ (k_ ≠ gb9002 ∧ k_ ≠ gb9028))))) ∧ some k_ ≠ (.slice Ao108 t9030.length co108 : Value).ownBlock) ∧ k_ ≠ gb9037) ∧ some k_ ≠ (.slice Ao115 t9040.length co115 : Value).ownBlock) ∧ some k_ ≠ (.slice Ao116 t9043.length co116 : Value).ownBlock)) (n := x9003002_5.length) (c := co92) ?_).2.2; exact (Kd.V_ext ((Kd.V_mono (Kd.V_far (p := ⟨gb9028, 2, none⟩) (Kd.V_far (p := ⟨gb9028, 1, none⟩) (Kd.V_far (p := ⟨gb9028, 0, none⟩) (Kd.V_mono HO_9003002.out (fun k_ hk => (⟨hk, hk.1.1.1.1.2.2.2.2.2⟩ : _ ∧ k_ ≠ gb9028))) (fun _ hk => hk.2) (.int .i64 t9039)) (fun _ hk => hk.2) (.slice Ao115 t9040.length co115)) (fun _ hk => hk.2) (.slice Ao116 t9043.length co116)) (fun _ h_ => h_.1))))); (case side4 => exact (Kd.V_reads' HO_9003002.out).2.1); rintro e w118 ⟨v9050, v9053, rfl, ho0, ho1, hb⟩; refine ⟨_, rfl, ?_⟩; have n0_ := Aside0.mk (Kd.V_mono (Kd.V_told (Kd.V_told (Kd.V_old (Kd.V_ext ((Kd.V_mono (Kd.V_far (p := ⟨gb9028, 2, none⟩) (Kd.V_far (p := ⟨gb9028, 1, none⟩) (Kd.V_far (p := ⟨gb9028, 0, none⟩) (Kd.V_mono HO_9003001.out (fun k_ hk => (⟨hk, hk.1.1.1.1.2.2.2.2.2⟩ : _ ∧ k_ ≠ gb9028))) (fun _ hk => hk.2) (.int .i64 t9039)) (fun _ hk => hk.2) (.slice Ao115 t9040.length co115)) (fun _ hk => hk.2) (.slice Ao116 t9043.length co116)) (fun _ h_ => h_.1)))) hb) (Kd.R_base ho0)) (Kd.R_base ho1)) (fun _ h_ => h_.1)); have n1_ := Aside0.mk (Kd.V_mono (Kd.V_told (Kd.V_told (Kd.V_old (Kd.V_ext ((Kd.V_mono (Kd.V_far (p := ⟨gb9028, 2, none⟩) (Kd.V_far (p := ⟨gb9028, 1, none⟩) (Kd.V_far (p := ⟨gb9028, 0, none⟩) (Kd.V_mono HO_9003002.out (fun k_ hk => (⟨hk, hk.1.1.1.1.2.2.2.2.2⟩ : _ ∧ k_ ≠ gb9028))) (fun _ hk => hk.2) (.int .i64 t9039)) (fun _ hk => hk.2) (.slice Ao115 t9040.length co115)) (fun _ hk => hk.2) (.slice Ao116 t9043.length co116)) (fun _ h_ => h_.1)))) hb) (Kd.R_base ho0)) (Kd.R_base ho1)) (fun _ h_ => h_.1)); have n2_ := Aside0.mk (Kd.R_mono (Kd.R_told (Kd.R_told (Kd.R_old (Kd.R_ext ((Kd.R_mono (Kd.R_far (p := ⟨gb9028, 2, none⟩) (Kd.R_far (p := ⟨gb9028, 1, none⟩) (Kd.R_far (p := ⟨gb9028, 0, none⟩) (Kd.R_types HO9042.out BK9028.out (by decide)) (fun _ hk => hk.2) (.int .i64 t9039)) (fun _ hk => hk.2) (.slice Ao115 t9040.length co115)) (fun _ hk => hk.2) (.slice Ao116 t9043.length co116)) (fun _ h_ => h_.1)))) hb) (Kd.R_base ho0)) (Kd.R_base ho1)) (fun _ h_ => h_.1)); have n3_ := Aside0.mk (Kd.R_mono (Kd.R_told (Kd.R_told (Kd.R_old (Kd.R_ext ((Kd.R_mono (Kd.R_far (p := ⟨gb9028, 2, none⟩) (Kd.R_far (p := ⟨gb9028, 1, none⟩) (Kd.R_far (p := ⟨gb9028, 0, none⟩) (Kd.R_types HO9045.out BK9028.out (by decide)) (fun _ hk => hk.2) (.int .i64 t9039)) (fun _ hk => hk.2) (.slice Ao115 t9040.length co115)) (fun _ hk => hk.2) (.slice Ao116 t9043.length co116)) (fun _ h_ => h_.1)))) hb) (Kd.R_base ho0)) (Kd.R_base ho1)) (fun _ h_ => h_.1)); have n4_ := Aside0.mk (Kd.R_lower (Kd.R_new' (Kd.R_new' (Kd.R_newM (M := fun k_ => (w.heap.size ≤ k_)) ho0 (below_size (below_extB HB.out)) (fun k_ h_ => h_)) (Kd.R_lt (Kd.R_ext ((Kd.R_mono (Kd.R_far (p := ⟨gb9028, 2, none⟩) (Kd.R_far (p := ⟨gb9028, 1, none⟩) (Kd.R_far (p := ⟨gb9028, 0, none⟩) (Kd.R_types HO9042.out BK9028.out (by decide)) (fun _ hk => hk.2) (.int .i64 t9039)) (fun _ hk => hk.2) (.slice Ao115 t9040.length co115)) (fun _ hk => hk.2) (.slice Ao116 t9043.length co116)) (fun _ h_ => h_.1)))))) (Kd.R_lt (Kd.R_ext ((Kd.R_mono (Kd.R_far (p := ⟨gb9028, 2, none⟩) (Kd.R_far (p := ⟨gb9028, 1, none⟩) (Kd.R_far (p := ⟨gb9028, 0, none⟩) (Kd.R_types HO9045.out BK9028.out (by decide)) (fun _ hk => hk.2) (.int .i64 t9039)) (fun _ hk => hk.2) (.slice Ao115 t9040.length co115)) (fun _ hk => hk.2) (.slice Ao116 t9043.length co116)) (fun _ h_ => h_.1)))))) (below_size (below_extB HB.out))); have n5_ := Aside0.mk (Kd.R_lower (Kd.R_new' (Kd.R_new' (Kd.R_newM (M := fun k_ => (w.heap.size ≤ k_)) ho1 (below_size (below_extB HB.out)) (fun k_ h_ => h_)) (Kd.R_lt (Kd.R_ext ((Kd.R_mono (Kd.R_far (p := ⟨gb9028, 2, none⟩) (Kd.R_far (p := ⟨gb9028, 1, none⟩) (Kd.R_far (p := ⟨gb9028, 0, none⟩) (Kd.R_types HO9042.out BK9028.out (by decide)) (fun _ hk => hk.2) (.int .i64 t9039)) (fun _ hk => hk.2) (.slice Ao115 t9040.length co115)) (fun _ hk => hk.2) (.slice Ao116 t9043.length co116)) (fun _ h_ => h_.1)))))) (Kd.R_lt (Kd.R_ext ((Kd.R_mono (Kd.R_far (p := ⟨gb9028, 2, none⟩) (Kd.R_far (p := ⟨gb9028, 1, none⟩) (Kd.R_far (p := ⟨gb9028, 0, none⟩) (Kd.R_types HO9045.out BK9028.out (by decide)) (fun _ hk => hk.2) (.int .i64 t9039)) (fun _ hk => hk.2) (.slice Ao115 t9040.length co115)) (fun _ hk => hk.2) (.slice Ao116 t9043.length co116)) (fun _ h_ => h_.1)))))) (below_size (below_extB HB.out))); have n6_ := Aside0.mk (blk_below (blk_extC BK9001.out) hb); have n7_ := Aside0.mk (blk_below (blk_extC BK9002.out) hb); have n8_ := Aside0.mk (blk_below (g := gb9028) (o := .cells #[.int .i64 t9039, .slice Ao115 t9040.length co115, .slice Ao116 t9043.length co116] 44 (0, 0)) (by (with_reducible repeat (first | refine blk_drewN ?_ _ | refine blk_drew ?_ | refine blk_alloc ?_ _)); refine blk_put (cs := #[.int .i64 t9039, .slice Ao115 t9040.length co115, .slice Ao99 t9024.length co99]) ?_ 2 _ rfl; (with_reducible repeat (first | refine blk_drewN ?_ _ | refine blk_drew ?_ | refine blk_alloc ?_ _)); refine blk_put (cs := #[.int .i64 t9039, .slice Ao98 t9021.length co98, .slice Ao99 t9024.length co99]) ?_ 1 _ rfl; (with_reducible repeat (first | refine blk_drewN ?_ _ | refine blk_drew ?_ | refine blk_alloc ?_ _)); refine blk_put (cs := #[.int .i64 t9020, .slice Ao98 t9021.length co98, .slice Ao99 t9024.length co99]) ?_ 0 _ rfl; exact blk_ext BK9028.out) hb); have n9_ := Aside0.mk (blk_below (blk_extC BK9037.out) hb); clear HO_9003001; clear HO_9003002; clear HO9042; clear HO9045; clear BK9001; clear BK9002; clear BK9028; clear BK9037; have HO_9003001 := n0_; have HO_9003002 := n1_; have HO9042 := n2_; have HO9045 := n3_; have HO9051 := n4_; have HO9054 := n5_; have BK9001 := n6_; have BK9002 := n7_; have BK9028 := n8_; have BK9037 := n9_; replace HB := mvH HB hb; clear n0_ n1_ n2_ n3_ n4_ n5_ n6_ n7_ n8_ n9_; (try clear hb); (try clear hb2); (try clear hk); (try clear hi); (try clear ho0); (try clear ho1); have hcz119_0 : w118.cell? ⟨gb9037, 0, none⟩ = some (.int .i64 t9029) := (blk_cell BK9037.out 0).trans rfl; have hcz119_1 : w118.cell? ⟨gb9037, 1, none⟩ = some (.slice Ao108 t9030.length co108) := (blk_cell BK9037.out 1).trans rfl; have hcz119_2 : w118.cell? ⟨gb9037, 2, none⟩ = some (.slice Ao109 t9033.length co109) := (blk_cell BK9037.out 2).trans rfl; have hfz119_0 := blk_frozen BK9037.out 0; have hfz119_1 := blk_frozen BK9037.out 1; have hfz119_2 := blk_frozen BK9037.out 2; obtain ⟨Ao120, co120, eo120⟩ := Kd.R_slice HO9051.out; subst eo120; obtain ⟨Ao121, co121, eo121⟩ := Kd.R_slice HO9054.out; subst eo121; have hcz122_0 : w118.cell? ⟨gb9028, 0, none⟩ = some (.int .i64 t9039) := (blk_cell BK9028.out 0).trans rfl; have hcz122_1 : w118.cell? ⟨gb9028, 1, none⟩ = some (.slice Ao115 t9040.length co115) := (blk_cell BK9028.out 1).trans rfl; have hcz122_2 : w118.cell? ⟨gb9028, 2, none⟩ = some (.slice Ao116 t9043.length co116) := (blk_cell BK9028.out 2).trans rfl; have hfz122_0 := blk_frozen BK9028.out 0; have hfz122_1 := blk_frozen BK9028.out 1; have hfz122_2 := blk_frozen BK9028.out 2) | (go_at_call 35; (with_reducible refine (customsref33_SameLine.calls kj5 t9039 _ _ t9040 _ _ t9043 t9048 _ _ t9049 _ _ t9052 true _ ?side1 ?side2 ?side3 ?side4 ?side5 ?side6 ?side7 ?side8 A63.out).mono ?_); (case side1 => refine (Kd.R_reads' (e := 3) (base := w.heap.size) (ok := fun k_ => ((((w.heap.size ≤ k_) ∧ some k_ ≠ (.slice Ao116 t9043.length co116 : Value).ownBlock) ∧ some k_ ≠ (.slice Ao120 t9049.length co120 : Value).ownBlock) ∧ some k_ ≠ (.slice Ao121 t9052.length co121 : Value).ownBlock)) (n := t9040.length) (c := co115) ?_).2.2; exact (Kd.R_ext ((Kd.R_mono (Kd.R_far (p := ⟨gb9037, 2, none⟩) (Kd.R_far (p := ⟨gb9037, 1, none⟩) (Kd.R_far (p := ⟨gb9037, 0, none⟩) (Kd.R_types HO9042.out BK9037.out (by decide)) (fun _ hk => hk.2) (.int .i64 t9048)) (fun _ hk => hk.2) (.slice Ao120 t9049.length co120)) (fun _ hk => hk.2) (.slice Ao121 t9052.length co121)) (fun _ h_ => h_.1))))); (case side2 => exact (Kd.R_reads' HO9042.out).2.1); (case side3 => refine (Kd.R_reads' (e := 3) (base := w.heap.size) (ok := fun k_ => ((((w.heap.size ≤ k_) ∧ some k_ ≠ (.slice Ao115 t9040.length co115 : Value).ownBlock) ∧ some k_ ≠ (.slice Ao120 t9049.length co120 : Value).ownBlock) ∧ some k_ ≠ (.slice Ao121 t9052.length co121 : Value).ownBlock)) (n := t9043.length) (c := co116) ?_).2.2; exact (Kd.R_ext ((Kd.R_mono (Kd.R_far (p := ⟨gb9037, 2, none⟩) (Kd.R_far (p := ⟨gb9037, 1, none⟩) (Kd.R_far (p := ⟨gb9037, 0, none⟩) (Kd.R_types HO9045.out BK9037.out (by decide)) (fun _ hk => hk.2) (.int .i64 t9048)) (fun _ hk => hk.2) (.slice Ao120 t9049.length co120)) (fun _ hk => hk.2) (.slice Ao121 t9052.length co121)) (fun _ h_ => h_.1))))); (case side4 => exact (Kd.R_reads' HO9045.out).2.1); (case side5 => refine (Kd.R_reads' (e := 3) (base := w.heap.size) (ok := fun k_ => ((((w.heap.size ≤ k_) ∧ some k_ ≠ (.slice Ao121 t9052.length co121 : Value).ownBlock) ∧ some k_ ≠ (.slice Ao115 t9040.length co115 : Value).ownBlock) ∧ some k_ ≠ (.slice Ao116 t9043.length co116 : Value).ownBlock)) (n := t9049.length) (c := co120) ?_).2.2; exact (Kd.R_ext ((Kd.R_mono (Kd.R_far (p := ⟨gb9037, 2, none⟩) (Kd.R_far (p := ⟨gb9037, 1, none⟩) (Kd.R_far (p := ⟨gb9037, 0, none⟩) (Kd.R_types HO9051.out BK9037.out (by decide)) (fun _ hk => hk.2) (.int .i64 t9048)) (fun _ hk => hk.2) (.slice Ao120 t9049.length co120)) (fun _ hk => hk.2) (.slice Ao121 t9052.length co121)) (fun _ h_ => h_.1))))); (case side6 => exact (Kd.R_reads' HO9051.out).2.1); (case side7 => refine (Kd.R_reads' (e := 3) (base := w.heap.size) (ok := fun k_ => ((((w.heap.size ≤ k_) ∧ some k_ ≠ (.slice Ao120 t9049.length co120 : Value).ownBlock) ∧ some k_ ≠ (.slice Ao115 t9040.length co115 : Value).ownBlock) ∧ some k_ ≠ (.slice Ao116 t9043.length co116 : Value).ownBlock)) (n := t9052.length) (c := co121) ?_).2.2; exact (Kd.R_ext ((Kd.R_mono (Kd.R_far (p := ⟨gb9037, 2, none⟩) (Kd.R_far (p := ⟨gb9037, 1, none⟩) (Kd.R_far (p := ⟨gb9037, 0, none⟩) (Kd.R_types HO9054.out BK9037.out (by decide)) (fun _ hk => hk.2) (.int .i64 t9048)) (fun _ hk => hk.2) (.slice Ao120 t9049.length co120)) (fun _ hk => hk.2) (.slice Ao121 t9052.length co121)) (fun _ h_ => h_.1))))); (case side8 => exact (Kd.R_reads' HO9054.out).2.1); rintro e w123 ⟨rfl, hb⟩; have n0_ := Aside0.mk (Kd.V_below (Kd.V_ext ((Kd.V_mono (Kd.V_far (p := ⟨gb9037, 2, none⟩) (Kd.V_far (p := ⟨gb9037, 1, none⟩) (Kd.V_far (p := ⟨gb9037, 0, none⟩) (Kd.V_mono HO_9003001.out (fun k_ hk => (⟨hk, hk.1.1.1.1.2⟩ : _ ∧ k_ ≠ gb9037))) (fun _ hk => hk.2) (.int .i64 t9048)) (fun _ hk => hk.2) (.slice Ao120 t9049.length co120)) (fun _ hk => hk.2) (.slice Ao121 t9052.length co121)) (fun _ h_ => h_.1)))) hb); have n1_ := Aside0.mk (Kd.V_below (Kd.V_ext ((Kd.V_mono (Kd.V_far (p := ⟨gb9037, 2, none⟩) (Kd.V_far (p := ⟨gb9037, 1, none⟩) (Kd.V_far (p := ⟨gb9037, 0, none⟩) (Kd.V_mono HO_9003002.out (fun k_ hk => (⟨hk, hk.1.1.1.1.2⟩ : _ ∧ k_ ≠ gb9037))) (fun _ hk => hk.2) (.int .i64 t9048)) (fun _ hk => hk.2) (.slice Ao120 t9049.length co120)) (fun _ hk => hk.2) (.slice Ao121 t9052.length co121)) (fun _ h_ => h_.1)))) hb); have n2_ := Aside0.mk (Kd.R_below (Kd.R_ext ((Kd.R_mono (Kd.R_far (p := ⟨gb9037, 2, none⟩) (Kd.R_far (p := ⟨gb9037, 1, none⟩) (Kd.R_far (p := ⟨gb9037, 0, none⟩) (Kd.R_types HO9042.out BK9037.out (by decide)) (fun _ hk => hk.2) (.int .i64 t9048)) (fun _ hk => hk.2) (.slice Ao120 t9049.length co120)) (fun _ hk => hk.2) (.slice Ao121 t9052.length co121)) (fun _ h_ => h_.1)))) hb); have n3_ := Aside0.mk (Kd.R_below (Kd.R_ext ((Kd.R_mono (Kd.R_far (p := ⟨gb9037, 2, none⟩) (Kd.R_far (p := ⟨gb9037, 1, none⟩) (Kd.R_far (p := ⟨gb9037, 0, none⟩) (Kd.R_types HO9045.out BK9037.out (by decide)) (fun _ hk => hk.2) (.int .i64 t9048)) (fun _ hk => hk.2) (.slice Ao120 t9049.length co120)) (fun _ hk => hk.2) (.slice Ao121 t9052.length co121)) (fun _ h_ => h_.1)))) hb); have n4_ := Aside0.mk (Kd.R_below (Kd.R_ext ((Kd.R_mono (Kd.R_far (p := ⟨gb9037, 2, none⟩) (Kd.R_far (p := ⟨gb9037, 1, none⟩) (Kd.R_far (p := ⟨gb9037, 0, none⟩) (Kd.R_types HO9051.out BK9037.out (by decide)) (fun _ hk => hk.2) (.int .i64 t9048)) (fun _ hk => hk.2) (.slice Ao120 t9049.length co120)) (fun _ hk => hk.2) (.slice Ao121 t9052.length co121)) (fun _ h_ => h_.1)))) hb); have n5_ := Aside0.mk (Kd.R_below (Kd.R_ext ((Kd.R_mono (Kd.R_far (p := ⟨gb9037, 2, none⟩) (Kd.R_far (p := ⟨gb9037, 1, none⟩) (Kd.R_far (p := ⟨gb9037, 0, none⟩) (Kd.R_types HO9054.out BK9037.out (by decide)) (fun _ hk => hk.2) (.int .i64 t9048)) (fun _ hk => hk.2) (.slice Ao120 t9049.length co120)) (fun _ hk => hk.2) (.slice Ao121 t9052.length co121)) (fun _ h_ => h_.1)))) hb); have n6_ := Aside0.mk (blk_below (blk_extC BK9001.out) hb); have n7_ := Aside0.mk (blk_below (blk_extC BK9002.out) hb); have n8_ := Aside0.mk (blk_below (blk_extC BK9028.out) hb); have n9_ := Aside0.mk (blk_below (g := gb9037) (o := .cells #[.int .i64 t9048, .slice Ao120 t9049.length co120, .slice Ao121 t9052.length co121] 44 (0, 0)) (by (with_reducible repeat (first | refine blk_drewN ?_ _ | refine blk_drew ?_ | refine blk_alloc ?_ _)); refine blk_put (cs := #[.int .i64 t9048, .slice Ao120 t9049.length co120, .slice Ao109 t9033.length co109]) ?_ 2 _ rfl; (with_reducible repeat (first | refine blk_drewN ?_ _ | refine blk_drew ?_ | refine blk_alloc ?_ _)); refine blk_put (cs := #[.int .i64 t9048, .slice Ao108 t9030.length co108, .slice Ao109 t9033.length co109]) ?_ 1 _ rfl; (with_reducible repeat (first | refine blk_drewN ?_ _ | refine blk_drew ?_ | refine blk_alloc ?_ _)); refine blk_put (cs := #[.int .i64 t9029, .slice Ao108 t9030.length co108, .slice Ao109 t9033.length co109]) ?_ 0 _ rfl; exact blk_ext BK9037.out) hb); clear HO_9003001; clear HO_9003002; clear HO9042; clear HO9045; clear HO9051; clear HO9054; clear BK9001; clear BK9002; clear BK9028; clear BK9037; have HO_9003001 := n0_; have HO_9003002 := n1_; have HO9042 := n2_; have HO9045 := n3_; have HO9051 := n4_; have HO9054 := n5_; have BK9001 := n6_; have BK9002 := n7_; have BK9028 := n8_; have BK9037 := n9_; replace HB := mvH HB hb; clear n0_ n1_ n2_ n3_ n4_ n5_ n6_ n7_ n8_ n9_; (try clear hb); (try clear hb2); (try clear hk); (try clear hi); have hcz124_0 : w123.cell? ⟨gb9002, 0, none⟩ = some (.int .i64 x9003000_5) := (blk_cell BK9002.out 0).trans rfl; have hcz124_1 : w123.cell? ⟨gb9002, 1, none⟩ = some (.slice Ao91 x9003001_5.length co91) := (blk_cell BK9002.out 1).trans rfl; have hcz124_2 : w123.cell? ⟨gb9002, 2, none⟩ = some (.slice Ao92 x9003002_5.length co92) := (blk_cell BK9002.out 2).trans rfl; have hfz124_0 := blk_frozen BK9002.out 0; have hfz124_1 := blk_frozen BK9002.out 1; have hfz124_2 := blk_frozen BK9002.out 2) | ((with_reducible refine gate_callee (f := 41) rfl ?_); refine goesL_ (some 132) rfl rfl Try.func41 (by kernel_rfl) rfl #[.agg #[.int .i64 x9003000_5, .slice Ao91 x9003001_5.length co91, .slice Ao92 x9003002_5.length co92], .int .i64 x2_5] rfl (by (try simp only [List.map_toArray, List.map_cons, List.map_nil]); first | done | rfl | (simp only [List.length_drop, List.length_take]; rfl)) ?_; (with_reducible refine (channel_Lose.calls x9003000_5 _ _ x9003001_5 _ _ x9003002_5 x2_5 t9058 t9059 t9062 t9065 _ ?side1 ?side2 ?side3 ?side4 A65.out).mono ?_); (case side1 => exact Kd.C_ext (Kd.V_reads' HO_9003001.out).2.2); (case side2 => exact (Kd.V_reads' HO_9003001.out).2.1); (case side3 => exact Kd.C_ext (Kd.V_reads' HO_9003002.out).2.2); (case side4 => exact (Kd.V_reads' HO_9003002.out).2.1); rintro e w125 ⟨v9060, v9063, rfl, ho0, ho1, hb⟩; refine ⟨_, rfl, ?_⟩; have n2_ := Aside0.mk (Kd.R_lower (Kd.R_newM (M := fun k_ => (w.heap.size ≤ k_)) ho0 (below_size (below_extB HB.out)) (fun k_ h_ => h_)) (below_size (below_extB HB.out))); have n3_ := Aside0.mk (Kd.R_lower (Kd.R_newM (M := fun k_ => (w.heap.size ≤ k_)) ho1 (below_size (below_extB HB.out)) (fun k_ h_ => h_)) (below_size (below_extB HB.out))); have HO9061 := n2_; have HO9064 := n3_; replace HO_9003001 := tdV2 HO_9003001 hb (Kd.R_base ho0) (Kd.R_base ho1); replace HO_9003002 := tdV2 HO_9003002 hb (Kd.R_base ho0) (Kd.R_base ho1); replace BK9001 := mvB BK9001 hb; replace BK9002 := mvB BK9002 hb; replace BK9028 := mvB BK9028 hb; replace BK9037 := mvB BK9037 hb; replace HB := mvH HB hb; clear n2_ n3_; (try clear hb); (try clear hb2); (try clear hk); (try clear hi); (try clear ho0); (try clear ho1); have hcz126_0 : w125.cell? ⟨gb9028, 0, none⟩ = some (.int .i64 t9039) := (blk_cell BK9028.out 0).trans rfl; have hcz126_1 : w125.cell? ⟨gb9028, 1, none⟩ = some (.slice Ao115 t9040.length co115) := (blk_cell BK9028.out 1).trans rfl; have hcz126_2 : w125.cell? ⟨gb9028, 2, none⟩ = some (.slice Ao116 t9043.length co116) := (blk_cell BK9028.out 2).trans rfl; have hfz126_0 := blk_frozen BK9028.out 0; have hfz126_1 := blk_frozen BK9028.out 1; have hfz126_2 := blk_frozen BK9028.out 2; obtain ⟨Ao127, co127, eo127⟩ := Kd.R_slice HO9061.out; subst eo127; obtain ⟨Ao128, co128, eo128⟩ := Kd.R_slice HO9064.out; subst eo128) | ((with_reducible refine gate_store (t := 44) (p := 14) rfl ?_); refine store_event (t := 44) (p := 14) (v := ?vo_w129) (w1 := (((w125.setCell ⟨gb9028, 0, none⟩ (.int .i64 t9058)).setCell ⟨gb9028, 1, none⟩ (.slice Ao127 t9059.length co127)).setCell ⟨gb9028, 2, none⟩ (.slice Ao128 t9062.length co128))) ?hg ?ho ?hn ?hr ?_; (case ho => rfl); (case hg => rfl); (case hn => rfl); (case hr => first | (go_simp; done) | (go_simp; rfl)); intro w129 hw; have n0_ : Aside0 (Kd.V (Kd.int .i64) 3 w129 w.heap.size (fun k_ => ((P0_1_ k_ ∨ P0_2_ k_) ∨ w.heap.size ≤ k_) ∧ some k_ ≠ (.slice Ao127 t9059.length co127 : Value).ownBlock ∧ some k_ ≠ (.slice Ao128 t9062.length co128 : Value).ownBlock ∧ k_ ≠ gb9001 ∧ k_ ≠ gb9002 ∧ k_ ≠ gb9028 ∧ k_ ≠ gb9037) (.slice Ao91 x9003001_5.length co91) x9003001_5) := ⟨(by rw [hw]; exact (Kd.V_ext (Kd.V_mono (Kd.V_far (p := ⟨gb9028, 2, none⟩) (Kd.V_far (p := ⟨gb9028, 1, none⟩) (Kd.V_far (p := ⟨gb9028, 0, none⟩) (Kd.V_mono HO_9003001.out (fun k_ hk => (⟨hk, hk.1.1.1.1.1.1.1.1.2.2.2.2.2⟩ : _ ∧ k_ ≠ gb9028))) (fun _ hk => hk.2) (.int .i64 t9058)) (fun _ hk => hk.2) (.slice Ao127 t9059.length co127)) (fun _ hk => hk.2) (.slice Ao128 t9062.length co128)) (fun _ hk => ⟨hk.1.1.1.1.1.1.1.1.1.1, ⟨hk.1.1.2, ⟨hk.1.2, ⟨hk.1.1.1.1.1.1.1.1.1.2.2.2.1, ⟨hk.1.1.1.1.1.1.1.1.1.2.2.2.2.1, ⟨hk.1.1.1.1.1.1.1.1.1.2.2.2.2.2, hk.1.1.1.1.1.1.1.2⟩⟩⟩⟩⟩⟩))))⟩; have n1_ : Aside0 (Kd.V (Kd.int .i64) 3 w129 w.heap.size (fun k_ => ((P0_1_ k_ ∨ P0_2_ k_) ∨ w.heap.size ≤ k_) ∧ some k_ ≠ (.slice Ao127 t9059.length co127 : Value).ownBlock ∧ some k_ ≠ (.slice Ao128 t9062.length co128 : Value).ownBlock ∧ k_ ≠ gb9001 ∧ k_ ≠ gb9002 ∧ k_ ≠ gb9028 ∧ k_ ≠ gb9037) (.slice Ao92 x9003002_5.length co92) x9003002_5) := ⟨(by rw [hw]; exact (Kd.V_ext (Kd.V_mono (Kd.V_far (p := ⟨gb9028, 2, none⟩) (Kd.V_far (p := ⟨gb9028, 1, none⟩) (Kd.V_far (p := ⟨gb9028, 0, none⟩) (Kd.V_mono HO_9003002.out (fun k_ hk => (⟨hk, hk.1.1.1.1.1.1.1.1.2.2.2.2.2⟩ : _ ∧ k_ ≠ gb9028))) (fun _ hk => hk.2) (.int .i64 t9058)) (fun _ hk => hk.2) (.slice Ao127 t9059.length co127)) (fun _ hk => hk.2) (.slice Ao128 t9062.length co128)) (fun _ hk => ⟨hk.1.1.1.1.1.1.1.1.1.1, ⟨hk.1.1.2, ⟨hk.1.2, ⟨hk.1.1.1.1.1.1.1.1.1.2.2.2.1, ⟨hk.1.1.1.1.1.1.1.1.1.2.2.2.2.1, ⟨hk.1.1.1.1.1.1.1.1.1.2.2.2.2.2, hk.1.1.1.1.1.1.1.2⟩⟩⟩⟩⟩⟩))))⟩; have n2_ : Aside0 (Kd.R (Kd.int .i64) 3 w129 w.heap.size (fun k_ => (w.heap.size ≤ k_) ∧ some k_ ≠ (.slice Ao128 t9062.length co128 : Value).ownBlock) (.slice Ao127 t9059.length co127) t9059) := ⟨(by rw [hw]; exact (Kd.R_ext (Kd.R_mono (Kd.R_far (p := ⟨gb9028, 2, none⟩) (Kd.R_far (p := ⟨gb9028, 1, none⟩) (Kd.R_far (p := ⟨gb9028, 0, none⟩) (Kd.R_types HO9061.out BK9028.out (by decide)) (fun _ hk => hk.2) (.int .i64 t9058)) (fun _ hk => hk.2) (.slice Ao127 t9059.length co127)) (fun _ hk => hk.2) (.slice Ao128 t9062.length co128)) (fun _ hk => ⟨hk.1.1, hk.1.2⟩))))⟩; have n3_ : Aside0 (Kd.R (Kd.int .i64) 3 w129 w.heap.size (fun k_ => (w.heap.size ≤ k_) ∧ some k_ ≠ (.slice Ao127 t9059.length co127 : Value).ownBlock) (.slice Ao128 t9062.length co128) t9062) := ⟨(by rw [hw]; exact (Kd.R_ext (Kd.R_mono (Kd.R_far (p := ⟨gb9028, 2, none⟩) (Kd.R_far (p := ⟨gb9028, 1, none⟩) (Kd.R_far (p := ⟨gb9028, 0, none⟩) (Kd.R_types HO9064.out BK9028.out (by decide)) (fun _ hk => hk.2) (.int .i64 t9058)) (fun _ hk => hk.2) (.slice Ao127 t9059.length co127)) (fun _ hk => hk.2) (.slice Ao128 t9062.length co128)) (fun _ hk => ⟨hk.1.1, hk.1.2⟩))))⟩; have n4_ : Aside0 (w129.heap[gb9001]? = some (.cells #[.int .i64 a0_0, .slice A0_1 l0_1.length c0_1, .slice A0_2 l0_2.length c0_2] 44 (0, 0))) := ⟨(by rw [hw]; exact (blk_extC BK9001.out))⟩; have n5_ : Aside0 (w129.heap[gb9002]? = some (.cells #[.int .i64 x9003000_5, .slice Ao91 x9003001_5.length co91, .slice Ao92 x9003002_5.length co92] 44 (0, 0))) := ⟨(by rw [hw]; exact (blk_extC BK9002.out))⟩; have n6_ : Aside0 (w129.heap[gb9028]? = some (.cells #[.int .i64 t9058, .slice Ao127 t9059.length co127, .slice Ao128 t9062.length co128] 44 (0, 0))) := ⟨(by rw [hw]; exact (by (with_reducible repeat (first | refine blk_drewN ?_ _ | refine blk_drew ?_ | refine blk_alloc ?_ _)); refine blk_put (cs := #[.int .i64 t9058, .slice Ao127 t9059.length co127, .slice Ao116 t9043.length co116]) ?_ 2 _ rfl; (with_reducible repeat (first | refine blk_drewN ?_ _ | refine blk_drew ?_ | refine blk_alloc ?_ _)); refine blk_put (cs := #[.int .i64 t9058, .slice Ao115 t9040.length co115, .slice Ao116 t9043.length co116]) ?_ 1 _ rfl; (with_reducible repeat (first | refine blk_drewN ?_ _ | refine blk_drew ?_ | refine blk_alloc ?_ _)); refine blk_put (cs := #[.int .i64 t9039, .slice Ao115 t9040.length co115, .slice Ao116 t9043.length co116]) ?_ 0 _ rfl; exact blk_ext BK9028.out))⟩; have n7_ : Aside0 (w129.heap[gb9037]? = some (.cells #[.int .i64 t9048, .slice Ao120 t9049.length co120, .slice Ao121 t9052.length co121] 44 (0, 0))) := ⟨(by rw [hw]; exact (blk_extC BK9037.out))⟩; have n8_ : Aside0 (Below w.heap.size w w129) := ⟨(by rw [hw]; exact (below_extB HB.out))⟩; clear hw; clear HO_9003001; clear HO_9003002; clear HO9061; clear HO9064; clear BK9001; clear BK9002; clear BK9028; clear BK9037; clear HB; have HO_9003001 := n0_; have HO_9003002 := n1_; have HO9061 := n2_; have HO9064 := n3_; have BK9001 := n4_; have BK9002 := n5_; have BK9028 := n6_; have BK9037 := n7_; have HB := n8_; clear n0_ n1_ n2_ n3_ n4_ n5_ n6_ n7_ n8_; have hcz130_0 : w129.cell? ⟨gb9002, 0, none⟩ = some (.int .i64 x9003000_5) := (blk_cell BK9002.out 0).trans rfl; have hcz130_1 : w129.cell? ⟨gb9002, 1, none⟩ = some (.slice Ao91 x9003001_5.length co91) := (blk_cell BK9002.out 1).trans rfl; have hcz130_2 : w129.cell? ⟨gb9002, 2, none⟩ = some (.slice Ao92 x9003002_5.length co92) := (blk_cell BK9002.out 2).trans rfl; have hfz130_0 := blk_frozen BK9002.out 0; have hfz130_1 := blk_frozen BK9002.out 1; have hfz130_2 := blk_frozen BK9002.out 2) | ((with_reducible refine gate_callee (f := 42) rfl ?_); refine goesL_ (some 138) rfl rfl Try.func42 (by kernel_rfl) rfl #[.agg #[.int .i64 x9003000_5, .slice Ao91 x9003001_5.length co91, .slice Ao92 x9003002_5.length co92], .int .i64 x2_5] rfl (by (try simp only [List.map_toArray, List.map_cons, List.map_nil]); first | done | rfl | (simp only [List.length_drop, List.length_take]; rfl)) ?_; (with_reducible refine (customsref33_Lose.calls x9003000_5 _ _ x9003001_5 (fun k_ => (((P0_1_ k_ ∨ P0_2_ k_) ∨ w.heap.size ≤ k_) ∧ (some k_ ≠ (.slice Ao127 t9059.length co127 : Value).ownBlock ∧ (some k_ ≠ (.slice Ao128 t9062.length co128 : Value).ownBlock ∧ (k_ ≠ gb9001 ∧ (k_ ≠ gb9002 ∧ (k_ ≠ gb9028 ∧ k_ ≠ gb9037))))))) _ _ x9003002_5 x2_5 t9066 t9067 t9070 t9073 _ ?side1 ?side2 ?side3 A66.out).mono ?_); (case side1 => exact Kd.C_ext (Kd.V_reads' HO_9003001.out).2.2); (case side2 => exact (Kd.V_reads' HO_9003001.out).2.1); (case side3 => exact HO_9003002.out); rintro e w131 ⟨v9068, v9071, rfl, ho0, ho1, hb⟩; refine ⟨_, rfl, ?_⟩; have n4_ := Aside0.mk (Kd.R_lower (Kd.R_new' (Kd.R_new' (Kd.R_newM (M := fun k_ => (w.heap.size ≤ k_)) (Kd.R_mono (ok' := fun k_ => True) ho0 (fun _ hk_ => trivial)) (below_size (below_extB HB.out)) (fun k_ h_ => h_)) (Kd.R_lt (Kd.R_ext HO9061.out))) (Kd.R_lt (Kd.R_ext HO9064.out))) (below_size (below_extB HB.out))); have n5_ := Aside0.mk (Kd.V_lower (Kd.V_mono (ok' := fun k_ => ((P0_1_ k_ ∨ P0_2_ k_) ∨ w.heap.size ≤ k_) ∧ some k_ ≠ (v9068 : Value).ownBlock ∧ some k_ ≠ (.slice Ao127 t9059.length co127 : Value).ownBlock ∧ some k_ ≠ (.slice Ao128 t9062.length co128 : Value).ownBlock ∧ k_ ≠ gb9001 ∧ k_ ≠ gb9002 ∧ k_ ≠ gb9028 ∧ k_ ≠ gb9037) ho1 (fun k_ hk_ => ⟨Or.elim hk_.1 (fun hs_ => hs_.1) (fun hn_ => (.inr (Nat.le_trans (below_size (below_extB HB.out)) hn_))), hk_.2, Or.elim hk_.1 (fun hs_ => hs_.2.1) (fun hn_ => (Kd.fresh' (Kd.R_lt (Kd.R_ext HO9061.out)) k_ hn_)), Or.elim hk_.1 (fun hs_ => hs_.2.2.1) (fun hn_ => (Kd.fresh' (Kd.R_lt (Kd.R_ext HO9064.out)) k_ hn_)), Or.elim hk_.1 (fun hs_ => hs_.2.2.2.1) (fun hn_ => (Kd.freshB (blk_ext BK9001.out) k_ hn_)), Or.elim hk_.1 (fun hs_ => hs_.2.2.2.2.1) (fun hn_ => (Kd.freshB (blk_ext BK9002.out) k_ hn_)), Or.elim hk_.1 (fun hs_ => hs_.2.2.2.2.2.1) (fun hn_ => (Kd.freshB (blk_ext BK9028.out) k_ hn_)), Or.elim hk_.1 (fun hs_ => hs_.2.2.2.2.2.2) (fun hn_ => (Kd.freshB (blk_ext BK9037.out) k_ hn_))⟩)) (below_size (below_extB HB.out))); have HO9069 := n4_; have HO9072 := n5_; replace HO_9003001 := apV HO_9003001 hb (Kd.R_base ho0); replace HO_9003002 := apV HO_9003002 hb (Kd.R_base ho0); replace HO9061 := apR HO9061 hb (Kd.R_base ho0); replace HO9064 := apR HO9064 hb (Kd.R_base ho0); replace BK9001 := mvB BK9001 hb; replace BK9002 := mvB BK9002 hb; replace BK9028 := mvB BK9028 hb; replace BK9037 := mvB BK9037 hb; replace HB := mvH HB hb; clear n4_ n5_; (try clear hb); (try clear hb2); (try clear hk); (try clear hi); (try clear ho0); (try clear ho1); have hcz132_0 : w131.cell? ⟨gb9037, 0, none⟩ = some (.int .i64 t9048) := (blk_cell BK9037.out 0).trans rfl; have hcz132_1 : w131.cell? ⟨gb9037, 1, none⟩ = some (.slice Ao120 t9049.length co120) := (blk_cell BK9037.out 1).trans rfl; have hcz132_2 : w131.cell? ⟨gb9037, 2, none⟩ = some (.slice Ao121 t9052.length co121) := (blk_cell BK9037.out 2).trans rfl; have hfz132_0 := blk_frozen BK9037.out 0; have hfz132_1 := blk_frozen BK9037.out 1; have hfz132_2 := blk_frozen BK9037.out 2; obtain ⟨Ao133, co133, eo133⟩ := Kd.R_slice HO9069.out; subst eo133; obtain ⟨Ao134, co134, eo134⟩ := Kd.V_slice HO9072.out; subst eo134; have hcz135_0 : w131.cell? ⟨gb9028, 0, none⟩ = some (.int .i64 t9058) := (blk_cell BK9028.out 0).trans rfl; have hcz135_1 : w131.cell? ⟨gb9028, 1, none⟩ = some (.slice Ao127 t9059.length co127) := (blk_cell BK9028.out 1).trans rfl; have hcz135_2 : w131.cell? ⟨gb9028, 2, none⟩ = some (.slice Ao128 t9062.length co128) := (blk_cell BK9028.out 2).trans rfl; have hfz135_0 := blk_frozen BK9028.out 0; have hfz135_1 := blk_frozen BK9028.out 1; have hfz135_2 := blk_frozen BK9028.out 2) | (go_at_call 35; (with_reducible refine (customsref33_SameLine.calls kj5 t9058 _ _ t9059 _ _ t9062 t9066 _ _ t9067 _ _ t9070 true _ ?side1 ?side2 ?side3 ?side4 ?side5 ?side6 ?side7 ?side8 A68.out).mono ?_); (case side1 => refine (Kd.R_reads' (e := 3) (base := w.heap.size) (ok := fun k_ => (((w.heap.size ≤ k_) ∧ some k_ ≠ (.slice Ao128 t9062.length co128 : Value).ownBlock) ∧ some k_ ≠ (.slice Ao133 t9067.length co133 : Value).ownBlock)) (n := t9059.length) (c := co127) ?_).2.2; exact (Kd.R_ext ((Kd.R_mono (Kd.R_far (p := ⟨gb9037, 2, none⟩) (Kd.R_far (p := ⟨gb9037, 1, none⟩) (Kd.R_far (p := ⟨gb9037, 0, none⟩) (Kd.R_types HO9061.out BK9037.out (by decide)) (fun _ hk => hk.2) (.int .i64 t9066)) (fun _ hk => hk.2) (.slice Ao133 t9067.length co133)) (fun _ hk => hk.2) (.slice Ao134 t9070.length co134)) (fun _ h_ => h_.1))))); (case side2 => exact (Kd.R_reads' HO9061.out).2.1); (case side3 => refine (Kd.R_reads' (e := 3) (base := w.heap.size) (ok := fun k_ => (((w.heap.size ≤ k_) ∧ some k_ ≠ (.slice Ao127 t9059.length co127 : Value).ownBlock) ∧ some k_ ≠ (.slice Ao133 t9067.length co133 : Value).ownBlock)) (n := t9062.length) (c := co128) ?_).2.2; exact (Kd.R_ext ((Kd.R_mono (Kd.R_far (p := ⟨gb9037, 2, none⟩) (Kd.R_far (p := ⟨gb9037, 1, none⟩) (Kd.R_far (p := ⟨gb9037, 0, none⟩) (Kd.R_types HO9064.out BK9037.out (by decide)) (fun _ hk => hk.2) (.int .i64 t9066)) (fun _ hk => hk.2) (.slice Ao133 t9067.length co133)) (fun _ hk => hk.2) (.slice Ao134 t9070.length co134)) (fun _ h_ => h_.1))))); (case side4 => exact (Kd.R_reads' HO9064.out).2.1); (case side5 => refine (Kd.R_reads' (e := 3) (base := w.heap.size) (ok := fun k_ => ((((w.heap.size ≤ k_) ∧ True) ∧ some k_ ≠ (.slice Ao127 t9059.length co127 : Value).ownBlock) ∧ some k_ ≠ (.slice Ao128 t9062.length co128 : Value).ownBlock)) (n := t9067.length) (c := co133) ?_).2.2; exact (Kd.R_ext ((Kd.R_mono (Kd.R_far (p := ⟨gb9037, 2, none⟩) (Kd.R_far (p := ⟨gb9037, 1, none⟩) (Kd.R_far (p := ⟨gb9037, 0, none⟩) (Kd.R_types HO9069.out BK9037.out (by decide)) (fun _ hk => hk.2) (.int .i64 t9066)) (fun _ hk => hk.2) (.slice Ao133 t9067.length co133)) (fun _ hk => hk.2) (.slice Ao134 t9070.length co134)) (fun _ h_ => h_.1))))); (case side6 => exact (Kd.R_reads' HO9069.out).2.1); (case side7 => refine (Kd.V_reads' (e := 3) (base := w.heap.size) (ok := fun k_ => ((((P0_1_ k_ ∨ P0_2_ k_) ∨ w.heap.size ≤ k_)) ∧ (some k_ ≠ (.slice Ao133 t9067.length co133 : Value).ownBlock ∧ (some k_ ≠ (.slice Ao127 t9059.length co127 : Value).ownBlock ∧ (some k_ ≠ (.slice Ao128 t9062.length co128 : Value).ownBlock ∧ (k_ ≠ gb9001 ∧ (k_ ≠ gb9002 ∧ (k_ ≠ gb9028 ∧ k_ ≠ gb9037)))))))) (n := t9070.length) (c := co134) ?_).2.2; exact (Kd.V_ext ((Kd.V_mono (Kd.V_far (p := ⟨gb9037, 2, none⟩) (Kd.V_far (p := ⟨gb9037, 1, none⟩) (Kd.V_far (p := ⟨gb9037, 0, none⟩) (Kd.V_mono HO9072.out (fun k_ hk => (⟨hk, hk.2.2.2.2.2.2.2⟩ : _ ∧ k_ ≠ gb9037))) (fun _ hk => hk.2) (.int .i64 t9066)) (fun _ hk => hk.2) (.slice Ao133 t9067.length co133)) (fun _ hk => hk.2) (.slice Ao134 t9070.length co134)) (fun _ h_ => h_.1))))); (case side8 => exact (Kd.V_reads' HO9072.out).2.1); rintro e w136 ⟨rfl, hb⟩; have n0_ := Aside0.mk (Kd.V_below (Kd.V_ext ((Kd.V_mono (Kd.V_far (p := ⟨gb9037, 2, none⟩) (Kd.V_far (p := ⟨gb9037, 1, none⟩) (Kd.V_far (p := ⟨gb9037, 0, none⟩) (Kd.V_mono HO_9003001.out (fun k_ hk => (⟨hk, hk.1.2.2.2.2.2.2⟩ : _ ∧ k_ ≠ gb9037))) (fun _ hk => hk.2) (.int .i64 t9066)) (fun _ hk => hk.2) (.slice Ao133 t9067.length co133)) (fun _ hk => hk.2) (.slice Ao134 t9070.length co134)) (fun _ h_ => h_.1)))) hb); have n1_ := Aside0.mk (Kd.V_below (Kd.V_ext ((Kd.V_mono (Kd.V_far (p := ⟨gb9037, 2, none⟩) (Kd.V_far (p := ⟨gb9037, 1, none⟩) (Kd.V_far (p := ⟨gb9037, 0, none⟩) (Kd.V_mono HO_9003002.out (fun k_ hk => (⟨hk, hk.1.2.2.2.2.2.2⟩ : _ ∧ k_ ≠ gb9037))) (fun _ hk => hk.2) (.int .i64 t9066)) (fun _ hk => hk.2) (.slice Ao133 t9067.length co133)) (fun _ hk => hk.2) (.slice Ao134 t9070.length co134)) (fun _ h_ => h_.1)))) hb); have n2_ := Aside0.mk (Kd.R_below (Kd.R_ext ((Kd.R_mono (Kd.R_far (p := ⟨gb9037, 2, none⟩) (Kd.R_far (p := ⟨gb9037, 1, none⟩) (Kd.R_far (p := ⟨gb9037, 0, none⟩) (Kd.R_types HO9061.out BK9037.out (by decide)) (fun _ hk => hk.2) (.int .i64 t9066)) (fun _ hk => hk.2) (.slice Ao133 t9067.length co133)) (fun _ hk => hk.2) (.slice Ao134 t9070.length co134)) (fun _ h_ => h_.1)))) hb); have n3_ := Aside0.mk (Kd.R_below (Kd.R_ext ((Kd.R_mono (Kd.R_far (p := ⟨gb9037, 2, none⟩) (Kd.R_far (p := ⟨gb9037, 1, none⟩) (Kd.R_far (p := ⟨gb9037, 0, none⟩) (Kd.R_types HO9064.out BK9037.out (by decide)) (fun _ hk => hk.2) (.int .i64 t9066)) (fun _ hk => hk.2) (.slice Ao133 t9067.length co133)) (fun _ hk => hk.2) (.slice Ao134 t9070.length co134)) (fun _ h_ => h_.1)))) hb); have n4_ := Aside0.mk (Kd.R_below (Kd.R_ext ((Kd.R_mono (Kd.R_far (p := ⟨gb9037, 2, none⟩) (Kd.R_far (p := ⟨gb9037, 1, none⟩) (Kd.R_far (p := ⟨gb9037, 0, none⟩) (Kd.R_types HO9069.out BK9037.out (by decide)) (fun _ hk => hk.2) (.int .i64 t9066)) (fun _ hk => hk.2) (.slice Ao133 t9067.length co133)) (fun _ hk => hk.2) (.slice Ao134 t9070.length co134)) (fun _ h_ => h_.1)))) hb); have n5_ := Aside0.mk (Kd.V_below (Kd.V_ext ((Kd.V_mono (Kd.V_far (p := ⟨gb9037, 2, none⟩) (Kd.V_far (p := ⟨gb9037, 1, none⟩) (Kd.V_far (p := ⟨gb9037, 0, none⟩) (Kd.V_mono HO9072.out (fun k_ hk => (⟨hk, hk.2.2.2.2.2.2.2⟩ : _ ∧ k_ ≠ gb9037))) (fun _ hk => hk.2) (.int .i64 t9066)) (fun _ hk => hk.2) (.slice Ao133 t9067.length co133)) (fun _ hk => hk.2) (.slice Ao134 t9070.length co134)) (fun _ h_ => h_.1)))) hb); have n6_ := Aside0.mk (blk_below (blk_extC BK9001.out) hb); have n7_ := Aside0.mk (blk_below (blk_extC BK9002.out) hb); have n8_ := Aside0.mk (blk_below (blk_extC BK9028.out) hb); have n9_ := Aside0.mk (blk_below (g := gb9037) (o := .cells #[.int .i64 t9066, .slice Ao133 t9067.length co133, .slice Ao134 t9070.length co134] 44 (0, 0)) (by (with_reducible repeat (first | refine blk_drewN ?_ _ | refine blk_drew ?_ | refine blk_alloc ?_ _)); refine blk_put (cs := #[.int .i64 t9066, .slice Ao133 t9067.length co133, .slice Ao121 t9052.length co121]) ?_ 2 _ rfl; (with_reducible repeat (first | refine blk_drewN ?_ _ | refine blk_drew ?_ | refine blk_alloc ?_ _)); refine blk_put (cs := #[.int .i64 t9066, .slice Ao120 t9049.length co120, .slice Ao121 t9052.length co121]) ?_ 1 _ rfl; (with_reducible repeat (first | refine blk_drewN ?_ _ | refine blk_drew ?_ | refine blk_alloc ?_ _)); refine blk_put (cs := #[.int .i64 t9048, .slice Ao120 t9049.length co120, .slice Ao121 t9052.length co121]) ?_ 0 _ rfl; exact blk_ext BK9037.out) hb); clear HO_9003001; clear HO_9003002; clear HO9061; clear HO9064; clear HO9069; clear HO9072; clear BK9001; clear BK9002; clear BK9028; clear BK9037; have HO_9003001 := n0_; have HO_9003002 := n1_; have HO9061 := n2_; have HO9064 := n3_; have HO9069 := n4_; have HO9072 := n5_; have BK9001 := n6_; have BK9002 := n7_; have BK9028 := n8_; have BK9037 := n9_; replace HB := mvH HB hb; clear n0_ n1_ n2_ n3_ n4_ n5_ n6_ n7_ n8_ n9_; (try clear hb); (try clear hb2); (try clear hk); (try clear hi); have hcz137_0 : w136.cell? ⟨gb9002, 0, none⟩ = some (.int .i64 x9003000_5) := (blk_cell BK9002.out 0).trans rfl; have hcz137_1 : w136.cell? ⟨gb9002, 1, none⟩ = some (.slice Ao91 x9003001_5.length co91) := (blk_cell BK9002.out 1).trans rfl; have hcz137_2 : w136.cell? ⟨gb9002, 2, none⟩ = some (.slice Ao92 x9003002_5.length co92) := (blk_cell BK9002.out 2).trans rfl; have hfz137_0 := blk_frozen BK9002.out 0; have hfz137_1 := blk_frozen BK9002.out 1; have hfz137_2 := blk_frozen BK9002.out 2) | ((with_reducible refine gate_callee (f := 43) rfl ?_); refine goesL_ (some 153) rfl rfl Try.func43 (by kernel_rfl) rfl #[.agg #[.int .i64 x9003000_5, .slice Ao91 x9003001_5.length co91, .slice Ao92 x9003002_5.length co92], .int .i64 x2_5] rfl (by (try simp only [List.map_toArray, List.map_cons, List.map_nil]); first | done | rfl | (simp only [List.length_drop, List.length_take]; rfl)) ?_; (with_reducible refine (channel_Repeat.calls x9003000_5 _ _ x9003001_5 _ _ x9003002_5 x2_5 t9075 t9076 t9079 t9082 _ ?side1 ?side2 ?side3 ?side4 A70.out).mono ?_); (case side1 => exact Kd.C_ext (Kd.V_reads' HO_9003001.out).2.2); (case side2 => exact (Kd.V_reads' HO_9003001.out).2.1); (case side3 => exact Kd.C_ext (Kd.V_reads' HO_9003002.out).2.2); (case side4 => exact (Kd.V_reads' HO_9003002.out).2.1); rintro e w138 ⟨v9077, v9080, rfl, ho0, ho1, hb⟩; refine ⟨_, rfl, ?_⟩; have n2_ := Aside0.mk (Kd.R_lower (Kd.R_newM (M := fun k_ => (w.heap.size ≤ k_)) ho0 (below_size (below_extB HB.out)) (fun k_ h_ => h_)) (below_size (below_extB HB.out))); have n3_ := Aside0.mk (Kd.R_lower (Kd.R_newM (M := fun k_ => (w.heap.size ≤ k_)) ho1 (below_size (below_extB HB.out)) (fun k_ h_ => h_)) (below_size (below_extB HB.out))); have HO9078 := n2_; have HO9081 := n3_; replace HO_9003001 := tdV2 HO_9003001 hb (Kd.R_base ho0) (Kd.R_base ho1); replace HO_9003002 := tdV2 HO_9003002 hb (Kd.R_base ho0) (Kd.R_base ho1); replace BK9001 := mvB BK9001 hb; replace BK9002 := mvB BK9002 hb; replace BK9028 := mvB BK9028 hb; replace BK9037 := mvB BK9037 hb; replace HB := mvH HB hb; clear n2_ n3_; (try clear hb); (try clear hb2); (try clear hk); (try clear hi); (try clear ho0); (try clear ho1); have hcz139_0 : w138.cell? ⟨gb9028, 0, none⟩ = some (.int .i64 t9058) := (blk_cell BK9028.out 0).trans rfl; have hcz139_1 : w138.cell? ⟨gb9028, 1, none⟩ = some (.slice Ao127 t9059.length co127) := (blk_cell BK9028.out 1).trans rfl; have hcz139_2 : w138.cell? ⟨gb9028, 2, none⟩ = some (.slice Ao128 t9062.length co128) := (blk_cell BK9028.out 2).trans rfl; have hfz139_0 := blk_frozen BK9028.out 0; have hfz139_1 := blk_frozen BK9028.out 1; have hfz139_2 := blk_frozen BK9028.out 2; obtain ⟨Ao140, co140, eo140⟩ := Kd.R_slice HO9078.out; subst eo140; obtain ⟨Ao141, co141, eo141⟩ := Kd.R_slice HO9081.out; subst eo141) | ((with_reducible refine gate_store (t := 44) (p := 14) rfl ?_); refine store_event (t := 44) (p := 14) (v := ?vo_w142) (w1 := (((w138.setCell ⟨gb9028, 0, none⟩ (.int .i64 t9075)).setCell ⟨gb9028, 1, none⟩ (.slice Ao140 t9076.length co140)).setCell ⟨gb9028, 2, none⟩ (.slice Ao141 t9079.length co141))) ?hg ?ho ?hn ?hr ?_; (case ho => rfl); (case hg => rfl); (case hn => rfl); (case hr => first | (go_simp; done) | (go_simp; rfl)); intro w142 hw; have n0_ : Aside0 (Kd.V (Kd.int .i64) 3 w142 w.heap.size (fun k_ => ((P0_1_ k_ ∨ P0_2_ k_) ∨ w.heap.size ≤ k_) ∧ some k_ ≠ (.slice Ao140 t9076.length co140 : Value).ownBlock ∧ some k_ ≠ (.slice Ao141 t9079.length co141 : Value).ownBlock ∧ k_ ≠ gb9001 ∧ k_ ≠ gb9002 ∧ k_ ≠ gb9028 ∧ k_ ≠ gb9037) (.slice Ao91 x9003001_5.length co91) x9003001_5) := ⟨(by rw [hw]; exact (Kd.V_ext (Kd.V_mono (Kd.V_far (p := ⟨gb9028, 2, none⟩) (Kd.V_far (p := ⟨gb9028, 1, none⟩) (Kd.V_far (p := ⟨gb9028, 0, none⟩) (Kd.V_mono HO_9003001.out (fun k_ hk => (⟨hk, hk.1.1.1.2.2.2.2.2.1⟩ : _ ∧ k_ ≠ gb9028))) (fun _ hk => hk.2) (.int .i64 t9075)) (fun _ hk => hk.2) (.slice Ao140 t9076.length co140)) (fun _ hk => hk.2) (.slice Ao141 t9079.length co141)) (fun _ hk => ⟨hk.1.1.1.1.1, ⟨hk.1.1.2, ⟨hk.1.2, ⟨hk.1.1.1.1.2.2.2.1, ⟨hk.1.1.1.1.2.2.2.2.1, ⟨hk.1.1.1.1.2.2.2.2.2.1, hk.1.1.1.1.2.2.2.2.2.2⟩⟩⟩⟩⟩⟩))))⟩; have n1_ : Aside0 (Kd.V (Kd.int .i64) 3 w142 w.heap.size (fun k_ => ((P0_1_ k_ ∨ P0_2_ k_) ∨ w.heap.size ≤ k_) ∧ some k_ ≠ (.slice Ao140 t9076.length co140 : Value).ownBlock ∧ some k_ ≠ (.slice Ao141 t9079.length co141 : Value).ownBlock ∧ k_ ≠ gb9001 ∧ k_ ≠ gb9002 ∧ k_ ≠ gb9028 ∧ k_ ≠ gb9037) (.slice Ao92 x9003002_5.length co92) x9003002_5) := ⟨(by rw [hw]; exact (Kd.V_ext (Kd.V_mono (Kd.V_far (p := ⟨gb9028, 2, none⟩) (Kd.V_far (p := ⟨gb9028, 1, none⟩) (Kd.V_far (p := ⟨gb9028, 0, none⟩) (Kd.V_mono HO_9003002.out (fun k_ hk => (⟨hk, hk.1.1.1.2.2.2.2.2.1⟩ : _ ∧ k_ ≠ gb9028))) (fun _ hk => hk.2) (.int .i64 t9075)) (fun _ hk => hk.2) (.slice Ao140 t9076.length co140)) (fun _ hk => hk.2) (.slice Ao141 t9079.length co141)) (fun _ hk => ⟨hk.1.1.1.1.1, ⟨hk.1.1.2, ⟨hk.1.2, ⟨hk.1.1.1.1.2.2.2.1, ⟨hk.1.1.1.1.2.2.2.2.1, ⟨hk.1.1.1.1.2.2.2.2.2.1, hk.1.1.1.1.2.2.2.2.2.2⟩⟩⟩⟩⟩⟩))))⟩; have n2_ : Aside0 (Kd.R (Kd.int .i64) 3 w142 w.heap.size (fun k_ => (w.heap.size ≤ k_) ∧ some k_ ≠ (.slice Ao141 t9079.length co141 : Value).ownBlock) (.slice Ao140 t9076.length co140) t9076) := ⟨(by rw [hw]; exact (Kd.R_ext (Kd.R_mono (Kd.R_far (p := ⟨gb9028, 2, none⟩) (Kd.R_far (p := ⟨gb9028, 1, none⟩) (Kd.R_far (p := ⟨gb9028, 0, none⟩) (Kd.R_types HO9078.out BK9028.out (by decide)) (fun _ hk => hk.2) (.int .i64 t9075)) (fun _ hk => hk.2) (.slice Ao140 t9076.length co140)) (fun _ hk => hk.2) (.slice Ao141 t9079.length co141)) (fun _ hk => ⟨hk.1.1, hk.1.2⟩))))⟩; have n3_ : Aside0 (Kd.R (Kd.int .i64) 3 w142 w.heap.size (fun k_ => (w.heap.size ≤ k_) ∧ some k_ ≠ (.slice Ao140 t9076.length co140 : Value).ownBlock) (.slice Ao141 t9079.length co141) t9079) := ⟨(by rw [hw]; exact (Kd.R_ext (Kd.R_mono (Kd.R_far (p := ⟨gb9028, 2, none⟩) (Kd.R_far (p := ⟨gb9028, 1, none⟩) (Kd.R_far (p := ⟨gb9028, 0, none⟩) (Kd.R_types HO9081.out BK9028.out (by decide)) (fun _ hk => hk.2) (.int .i64 t9075)) (fun _ hk => hk.2) (.slice Ao140 t9076.length co140)) (fun _ hk => hk.2) (.slice Ao141 t9079.length co141)) (fun _ hk => ⟨hk.1.1, hk.1.2⟩))))⟩; have n4_ : Aside0 (w142.heap[gb9001]? = some (.cells #[.int .i64 a0_0, .slice A0_1 l0_1.length c0_1, .slice A0_2 l0_2.length c0_2] 44 (0, 0))) := ⟨(by rw [hw]; exact (blk_extC BK9001.out))⟩; have n5_ : Aside0 (w142.heap[gb9002]? = some (.cells #[.int .i64 x9003000_5, .slice Ao91 x9003001_5.length co91, .slice Ao92 x9003002_5.length co92] 44 (0, 0))) := ⟨(by rw [hw]; exact (blk_extC BK9002.out))⟩; have n6_ : Aside0 (w142.heap[gb9028]? = some (.cells #[.int .i64 t9075, .slice Ao140 t9076.length co140, .slice Ao141 t9079.length co141] 44 (0, 0))) := ⟨(by rw [hw]; exact (by (with_reducible repeat (first | refine blk_drewN ?_ _ | refine blk_drew ?_ | refine blk_alloc ?_ _)); refine blk_put (cs := #[.int .i64 t9075, .slice Ao140 t9076.length co140, .slice Ao128 t9062.length co128]) ?_ 2 _ rfl; (with_reducible repeat (first | refine blk_drewN ?_ _ | refine blk_drew ?_ | refine blk_alloc ?_ _)); refine blk_put (cs := #[.int .i64 t9075, .slice Ao127 t9059.length co127, .slice Ao128 t9062.length co128]) ?_ 1 _ rfl; (with_reducible repeat (first | refine blk_drewN ?_ _ | refine blk_drew ?_ | refine blk_alloc ?_ _)); refine blk_put (cs := #[.int .i64 t9058, .slice Ao127 t9059.length co127, .slice Ao128 t9062.length co128]) ?_ 0 _ rfl; exact blk_ext BK9028.out))⟩; have n7_ : Aside0 (w142.heap[gb9037]? = some (.cells #[.int .i64 t9066, .slice Ao133 t9067.length co133, .slice Ao134 t9070.length co134] 44 (0, 0))) := ⟨(by rw [hw]; exact (blk_extC BK9037.out))⟩; have n8_ : Aside0 (Below w.heap.size w w142) := ⟨(by rw [hw]; exact (below_extB HB.out))⟩; clear hw; clear HO_9003001; clear HO_9003002; clear HO9078; clear HO9081; clear BK9001; clear BK9002; clear BK9028; clear BK9037; clear HB; have HO_9003001 := n0_; have HO_9003002 := n1_; have HO9078 := n2_; have HO9081 := n3_; have BK9001 := n4_; have BK9002 := n5_; have BK9028 := n6_; have BK9037 := n7_; have HB := n8_; clear n0_ n1_ n2_ n3_ n4_ n5_ n6_ n7_ n8_; have hcz143_0 : w142.cell? ⟨gb9002, 0, none⟩ = some (.int .i64 x9003000_5) := (blk_cell BK9002.out 0).trans rfl; have hcz143_1 : w142.cell? ⟨gb9002, 1, none⟩ = some (.slice Ao91 x9003001_5.length co91) := (blk_cell BK9002.out 1).trans rfl; have hcz143_2 : w142.cell? ⟨gb9002, 2, none⟩ = some (.slice Ao92 x9003002_5.length co92) := (blk_cell BK9002.out 2).trans rfl; have hfz143_0 := blk_frozen BK9002.out 0; have hfz143_1 := blk_frozen BK9002.out 1; have hfz143_2 := blk_frozen BK9002.out 2) | ((with_reducible refine gate_callee (f := 44) rfl ?_); refine goesL_ (some 159) rfl rfl Try.func44 (by kernel_rfl) rfl #[.agg #[.int .i64 x9003000_5, .slice Ao91 x9003001_5.length co91, .slice Ao92 x9003002_5.length co92], .int .i64 x2_5] rfl (by (try simp only [List.map_toArray, List.map_cons, List.map_nil]); first | done | rfl | (simp only [List.length_drop, List.length_take]; rfl)) ?_; (with_reducible refine (customsref33_Repeat.calls kj5 x9003000_5 _ _ x9003001_5 (fun k_ => (((P0_1_ k_ ∨ P0_2_ k_) ∨ w.heap.size ≤ k_) ∧ (some k_ ≠ (.slice Ao140 t9076.length co140 : Value).ownBlock ∧ (some k_ ≠ (.slice Ao141 t9079.length co141 : Value).ownBlock ∧ (k_ ≠ gb9001 ∧ (k_ ≠ gb9002 ∧ (k_ ≠ gb9028 ∧ k_ ≠ gb9037))))))) _ _ x9003002_5 x2_5 t9083 t9084 t9087 t9090 _ ?side1 ?side2 ?side3 A71.out).mono ?_); (case side1 => exact Kd.C_ext (Kd.V_reads' HO_9003001.out).2.2); (case side2 => exact (Kd.V_reads' HO_9003001.out).2.1); (case side3 => exact HO_9003002.out); rintro e w144 ⟨v9085, v9088, rfl, ho0, ho1, hb⟩; refine ⟨_, rfl, ?_⟩; have n4_ := Aside0.mk (Kd.R_lower (Kd.R_new' (Kd.R_new' (Kd.R_newM (M := fun k_ => (w.heap.size ≤ k_)) (Kd.R_mono (ok' := fun k_ => True) ho0 (fun _ hk_ => trivial)) (below_size (below_extB HB.out)) (fun k_ h_ => h_)) (Kd.R_lt (Kd.R_ext HO9078.out))) (Kd.R_lt (Kd.R_ext HO9081.out))) (below_size (below_extB HB.out))); have n5_ := Aside0.mk (Kd.V_lower (Kd.V_mono (ok' := fun k_ => ((P0_1_ k_ ∨ P0_2_ k_) ∨ w.heap.size ≤ k_) ∧ some k_ ≠ (v9085 : Value).ownBlock ∧ some k_ ≠ (.slice Ao140 t9076.length co140 : Value).ownBlock ∧ some k_ ≠ (.slice Ao141 t9079.length co141 : Value).ownBlock ∧ k_ ≠ gb9001 ∧ k_ ≠ gb9002 ∧ k_ ≠ gb9028 ∧ k_ ≠ gb9037) ho1 (fun k_ hk_ => ⟨Or.elim hk_.1 (fun hs_ => hs_.1) (fun hn_ => (.inr (Nat.le_trans (below_size (below_extB HB.out)) hn_))), hk_.2, Or.elim hk_.1 (fun hs_ => hs_.2.1) (fun hn_ => (Kd.fresh' (Kd.R_lt (Kd.R_ext HO9078.out)) k_ hn_)), Or.elim hk_.1 (fun hs_ => hs_.2.2.1) (fun hn_ => (Kd.fresh' (Kd.R_lt (Kd.R_ext HO9081.out)) k_ hn_)), Or.elim hk_.1 (fun hs_ => hs_.2.2.2.1) (fun hn_ => (Kd.freshB (blk_ext BK9001.out) k_ hn_)), Or.elim hk_.1 (fun hs_ => hs_.2.2.2.2.1) (fun hn_ => (Kd.freshB (blk_ext BK9002.out) k_ hn_)), Or.elim hk_.1 (fun hs_ => hs_.2.2.2.2.2.1) (fun hn_ => (Kd.freshB (blk_ext BK9028.out) k_ hn_)), Or.elim hk_.1 (fun hs_ => hs_.2.2.2.2.2.2) (fun hn_ => (Kd.freshB (blk_ext BK9037.out) k_ hn_))⟩)) (below_size (below_extB HB.out))); have HO9086 := n4_; have HO9089 := n5_; replace HO_9003001 := apV HO_9003001 hb (Kd.R_base ho0); replace HO_9003002 := apV HO_9003002 hb (Kd.R_base ho0); replace HO9078 := apR HO9078 hb (Kd.R_base ho0); replace HO9081 := apR HO9081 hb (Kd.R_base ho0); replace BK9001 := mvB BK9001 hb; replace BK9002 := mvB BK9002 hb; replace BK9028 := mvB BK9028 hb; replace BK9037 := mvB BK9037 hb; replace HB := mvH HB hb; clear n4_ n5_; (try clear hb); (try clear hb2); (try clear hk); (try clear hi); (try clear ho0); (try clear ho1); have hcz145_0 : w144.cell? ⟨gb9037, 0, none⟩ = some (.int .i64 t9066) := (blk_cell BK9037.out 0).trans rfl; have hcz145_1 : w144.cell? ⟨gb9037, 1, none⟩ = some (.slice Ao133 t9067.length co133) := (blk_cell BK9037.out 1).trans rfl; have hcz145_2 : w144.cell? ⟨gb9037, 2, none⟩ = some (.slice Ao134 t9070.length co134) := (blk_cell BK9037.out 2).trans rfl; have hfz145_0 := blk_frozen BK9037.out 0; have hfz145_1 := blk_frozen BK9037.out 1; have hfz145_2 := blk_frozen BK9037.out 2; obtain ⟨Ao146, co146, eo146⟩ := Kd.R_slice HO9086.out; subst eo146; obtain ⟨Ao147, co147, eo147⟩ := Kd.V_slice HO9089.out; subst eo147; have hcz148_0 : w144.cell? ⟨gb9028, 0, none⟩ = some (.int .i64 t9075) := (blk_cell BK9028.out 0).trans rfl; have hcz148_1 : w144.cell? ⟨gb9028, 1, none⟩ = some (.slice Ao140 t9076.length co140) := (blk_cell BK9028.out 1).trans rfl; have hcz148_2 : w144.cell? ⟨gb9028, 2, none⟩ = some (.slice Ao141 t9079.length co141) := (blk_cell BK9028.out 2).trans rfl; have hfz148_0 := blk_frozen BK9028.out 0; have hfz148_1 := blk_frozen BK9028.out 1; have hfz148_2 := blk_frozen BK9028.out 2) | (go_at_call 35; (with_reducible refine (customsref33_SameLine.calls kj5 t9075 _ _ t9076 _ _ t9079 t9083 _ _ t9084 _ _ t9087 true _ ?side1 ?side2 ?side3 ?side4 ?side5 ?side6 ?side7 ?side8 A73.out).mono ?_); (case side1 => refine (Kd.R_reads' (e := 3) (base := w.heap.size) (ok := fun k_ => (((w.heap.size ≤ k_) ∧ some k_ ≠ (.slice Ao141 t9079.length co141 : Value).ownBlock) ∧ some k_ ≠ (.slice Ao146 t9084.length co146 : Value).ownBlock)) (n := t9076.length) (c := co140) ?_).2.2; exact (Kd.R_ext ((Kd.R_mono (Kd.R_far (p := ⟨gb9037, 2, none⟩) (Kd.R_far (p := ⟨gb9037, 1, none⟩) (Kd.R_far (p := ⟨gb9037, 0, none⟩) (Kd.R_types HO9078.out BK9037.out (by decide)) (fun _ hk => hk.2) (.int .i64 t9083)) (fun _ hk => hk.2) (.slice Ao146 t9084.length co146)) (fun _ hk => hk.2) (.slice Ao147 t9087.length co147)) (fun _ h_ => h_.1))))); (case side2 => exact (Kd.R_reads' HO9078.out).2.1); (case side3 => refine (Kd.R_reads' (e := 3) (base := w.heap.size) (ok := fun k_ => (((w.heap.size ≤ k_) ∧ some k_ ≠ (.slice Ao140 t9076.length co140 : Value).ownBlock) ∧ some k_ ≠ (.slice Ao146 t9084.length co146 : Value).ownBlock)) (n := t9079.length) (c := co141) ?_).2.2; exact (Kd.R_ext ((Kd.R_mono (Kd.R_far (p := ⟨gb9037, 2, none⟩) (Kd.R_far (p := ⟨gb9037, 1, none⟩) (Kd.R_far (p := ⟨gb9037, 0, none⟩) (Kd.R_types HO9081.out BK9037.out (by decide)) (fun _ hk => hk.2) (.int .i64 t9083)) (fun _ hk => hk.2) (.slice Ao146 t9084.length co146)) (fun _ hk => hk.2) (.slice Ao147 t9087.length co147)) (fun _ h_ => h_.1))))); (case side4 => exact (Kd.R_reads' HO9081.out).2.1); (case side5 => refine (Kd.R_reads' (e := 3) (base := w.heap.size) (ok := fun k_ => ((((w.heap.size ≤ k_) ∧ True) ∧ some k_ ≠ (.slice Ao140 t9076.length co140 : Value).ownBlock) ∧ some k_ ≠ (.slice Ao141 t9079.length co141 : Value).ownBlock)) (n := t9084.length) (c := co146) ?_).2.2; exact (Kd.R_ext ((Kd.R_mono (Kd.R_far (p := ⟨gb9037, 2, none⟩) (Kd.R_far (p := ⟨gb9037, 1, none⟩) (Kd.R_far (p := ⟨gb9037, 0, none⟩) (Kd.R_types HO9086.out BK9037.out (by decide)) (fun _ hk => hk.2) (.int .i64 t9083)) (fun _ hk => hk.2) (.slice Ao146 t9084.length co146)) (fun _ hk => hk.2) (.slice Ao147 t9087.length co147)) (fun _ h_ => h_.1))))); (case side6 => exact (Kd.R_reads' HO9086.out).2.1); (case side7 => refine (Kd.V_reads' (e := 3) (base := w.heap.size) (ok := fun k_ => ((((P0_1_ k_ ∨ P0_2_ k_) ∨ w.heap.size ≤ k_)) ∧ (some k_ ≠ (.slice Ao146 t9084.length co146 : Value).ownBlock ∧ (some k_ ≠ (.slice Ao140 t9076.length co140 : Value).ownBlock ∧ (some k_ ≠ (.slice Ao141 t9079.length co141 : Value).ownBlock ∧ (k_ ≠ gb9001 ∧ (k_ ≠ gb9002 ∧ (k_ ≠ gb9028 ∧ k_ ≠ gb9037)))))))) (n := t9087.length) (c := co147) ?_).2.2; exact (Kd.V_ext ((Kd.V_mono (Kd.V_far (p := ⟨gb9037, 2, none⟩) (Kd.V_far (p := ⟨gb9037, 1, none⟩) (Kd.V_far (p := ⟨gb9037, 0, none⟩) (Kd.V_mono HO9089.out (fun k_ hk => (⟨hk, hk.2.2.2.2.2.2.2⟩ : _ ∧ k_ ≠ gb9037))) (fun _ hk => hk.2) (.int .i64 t9083)) (fun _ hk => hk.2) (.slice Ao146 t9084.length co146)) (fun _ hk => hk.2) (.slice Ao147 t9087.length co147)) (fun _ h_ => h_.1))))); (case side8 => exact (Kd.V_reads' HO9089.out).2.1); rintro e w149 ⟨rfl, hb⟩; have n0_ := Aside0.mk (Kd.V_below (Kd.V_ext ((Kd.V_mono (Kd.V_far (p := ⟨gb9037, 2, none⟩) (Kd.V_far (p := ⟨gb9037, 1, none⟩) (Kd.V_far (p := ⟨gb9037, 0, none⟩) (Kd.V_mono HO_9003001.out (fun k_ hk => (⟨hk, hk.1.2.2.2.2.2.2⟩ : _ ∧ k_ ≠ gb9037))) (fun _ hk => hk.2) (.int .i64 t9083)) (fun _ hk => hk.2) (.slice Ao146 t9084.length co146)) (fun _ hk => hk.2) (.slice Ao147 t9087.length co147)) (fun _ h_ => h_.1)))) hb); have n1_ := Aside0.mk (Kd.V_below (Kd.V_ext ((Kd.V_mono (Kd.V_far (p := ⟨gb9037, 2, none⟩) (Kd.V_far (p := ⟨gb9037, 1, none⟩) (Kd.V_far (p := ⟨gb9037, 0, none⟩) (Kd.V_mono HO_9003002.out (fun k_ hk => (⟨hk, hk.1.2.2.2.2.2.2⟩ : _ ∧ k_ ≠ gb9037))) (fun _ hk => hk.2) (.int .i64 t9083)) (fun _ hk => hk.2) (.slice Ao146 t9084.length co146)) (fun _ hk => hk.2) (.slice Ao147 t9087.length co147)) (fun _ h_ => h_.1)))) hb); have n2_ := Aside0.mk (Kd.R_below (Kd.R_ext ((Kd.R_mono (Kd.R_far (p := ⟨gb9037, 2, none⟩) (Kd.R_far (p := ⟨gb9037, 1, none⟩) (Kd.R_far (p := ⟨gb9037, 0, none⟩) (Kd.R_types HO9078.out BK9037.out (by decide)) (fun _ hk => hk.2) (.int .i64 t9083)) (fun _ hk => hk.2) (.slice Ao146 t9084.length co146)) (fun _ hk => hk.2) (.slice Ao147 t9087.length co147)) (fun _ h_ => h_.1)))) hb); have n3_ := Aside0.mk (Kd.R_below (Kd.R_ext ((Kd.R_mono (Kd.R_far (p := ⟨gb9037, 2, none⟩) (Kd.R_far (p := ⟨gb9037, 1, none⟩) (Kd.R_far (p := ⟨gb9037, 0, none⟩) (Kd.R_types HO9081.out BK9037.out (by decide)) (fun _ hk => hk.2) (.int .i64 t9083)) (fun _ hk => hk.2) (.slice Ao146 t9084.length co146)) (fun _ hk => hk.2) (.slice Ao147 t9087.length co147)) (fun _ h_ => h_.1)))) hb); have n4_ := Aside0.mk (Kd.R_below (Kd.R_ext ((Kd.R_mono (Kd.R_far (p := ⟨gb9037, 2, none⟩) (Kd.R_far (p := ⟨gb9037, 1, none⟩) (Kd.R_far (p := ⟨gb9037, 0, none⟩) (Kd.R_types HO9086.out BK9037.out (by decide)) (fun _ hk => hk.2) (.int .i64 t9083)) (fun _ hk => hk.2) (.slice Ao146 t9084.length co146)) (fun _ hk => hk.2) (.slice Ao147 t9087.length co147)) (fun _ h_ => h_.1)))) hb); have n5_ := Aside0.mk (Kd.V_below (Kd.V_ext ((Kd.V_mono (Kd.V_far (p := ⟨gb9037, 2, none⟩) (Kd.V_far (p := ⟨gb9037, 1, none⟩) (Kd.V_far (p := ⟨gb9037, 0, none⟩) (Kd.V_mono HO9089.out (fun k_ hk => (⟨hk, hk.2.2.2.2.2.2.2⟩ : _ ∧ k_ ≠ gb9037))) (fun _ hk => hk.2) (.int .i64 t9083)) (fun _ hk => hk.2) (.slice Ao146 t9084.length co146)) (fun _ hk => hk.2) (.slice Ao147 t9087.length co147)) (fun _ h_ => h_.1)))) hb); have n6_ := Aside0.mk (blk_below (blk_extC BK9001.out) hb); have n7_ := Aside0.mk (blk_below (blk_extC BK9002.out) hb); have n8_ := Aside0.mk (blk_below (blk_extC BK9028.out) hb); have n9_ := Aside0.mk (blk_below (g := gb9037) (o := .cells #[.int .i64 t9083, .slice Ao146 t9084.length co146, .slice Ao147 t9087.length co147] 44 (0, 0)) (by (with_reducible repeat (first | refine blk_drewN ?_ _ | refine blk_drew ?_ | refine blk_alloc ?_ _)); refine blk_put (cs := #[.int .i64 t9083, .slice Ao146 t9084.length co146, .slice Ao134 t9070.length co134]) ?_ 2 _ rfl; (with_reducible repeat (first | refine blk_drewN ?_ _ | refine blk_drew ?_ | refine blk_alloc ?_ _)); refine blk_put (cs := #[.int .i64 t9083, .slice Ao133 t9067.length co133, .slice Ao134 t9070.length co134]) ?_ 1 _ rfl; (with_reducible repeat (first | refine blk_drewN ?_ _ | refine blk_drew ?_ | refine blk_alloc ?_ _)); refine blk_put (cs := #[.int .i64 t9066, .slice Ao133 t9067.length co133, .slice Ao134 t9070.length co134]) ?_ 0 _ rfl; exact blk_ext BK9037.out) hb); clear HO_9003001; clear HO_9003002; clear HO9078; clear HO9081; clear HO9086; clear HO9089; clear BK9001; clear BK9002; clear BK9028; clear BK9037; have HO_9003001 := n0_; have HO_9003002 := n1_; have HO9078 := n2_; have HO9081 := n3_; have HO9086 := n4_; have HO9089 := n5_; have BK9001 := n6_; have BK9002 := n7_; have BK9028 := n8_; have BK9037 := n9_; replace HB := mvH HB hb; clear n0_ n1_ n2_ n3_ n4_ n5_ n6_ n7_ n8_ n9_; (try clear hb); (try clear hb2); (try clear hk); (try clear hi); have hcz150_0 : w149.cell? ⟨gb9002, 0, none⟩ = some (.int .i64 x9003000_5) := (blk_cell BK9002.out 0).trans rfl; have hcz150_1 : w149.cell? ⟨gb9002, 1, none⟩ = some (.slice Ao91 x9003001_5.length co91) := (blk_cell BK9002.out 1).trans rfl; have hcz150_2 : w149.cell? ⟨gb9002, 2, none⟩ = some (.slice Ao92 x9003002_5.length co92) := (blk_cell BK9002.out 2).trans rfl; have hfz150_0 := blk_frozen BK9002.out 0; have hfz150_1 := blk_frozen BK9002.out 1; have hfz150_2 := blk_frozen BK9002.out 2) | ((with_reducible refine gate_callee (f := 45) rfl ?_); refine goesL_ (some 174) rfl rfl Try.func45 (by kernel_rfl) rfl #[.agg #[.int .i64 x9003000_5, .slice Ao91 x9003001_5.length co91, .slice Ao92 x9003002_5.length co92], .int .i64 x2_5] rfl (by (try simp only [List.map_toArray, List.map_cons, List.map_nil]); first | done | rfl | (simp only [List.length_drop, List.length_take]; rfl)) ?_; (with_reducible refine (channel_Confirm.calls x9003000_5 _ _ x9003001_5 _ _ x9003002_5 x2_5 t9092 t9093 t9096 t9099 _ ?side1 ?side2 ?side3 ?side4 A75.out).mono ?_); (case side1 => exact Kd.C_ext (Kd.V_reads' HO_9003001.out).2.2); (case side2 => exact (Kd.V_reads' HO_9003001.out).2.1); (case side3 => exact Kd.C_ext (Kd.V_reads' HO_9003002.out).2.2); (case side4 => exact (Kd.V_reads' HO_9003002.out).2.1); rintro e w151 ⟨v9094, v9097, rfl, ho0, ho1, hb⟩; refine ⟨_, rfl, ?_⟩; have n2_ := Aside0.mk (Kd.R_lower (Kd.R_newM (M := fun k_ => (w.heap.size ≤ k_)) ho0 (below_size (below_extB HB.out)) (fun k_ h_ => h_)) (below_size (below_extB HB.out))); have n3_ := Aside0.mk (Kd.R_lower (Kd.R_newM (M := fun k_ => (w.heap.size ≤ k_)) ho1 (below_size (below_extB HB.out)) (fun k_ h_ => h_)) (below_size (below_extB HB.out))); have HO9095 := n2_; have HO9098 := n3_; replace HO_9003001 := tdV2 HO_9003001 hb (Kd.R_base ho0) (Kd.R_base ho1); replace HO_9003002 := tdV2 HO_9003002 hb (Kd.R_base ho0) (Kd.R_base ho1); replace BK9001 := mvB BK9001 hb; replace BK9002 := mvB BK9002 hb; replace BK9028 := mvB BK9028 hb; replace BK9037 := mvB BK9037 hb; replace HB := mvH HB hb; clear n2_ n3_; (try clear hb); (try clear hb2); (try clear hk); (try clear hi); (try clear ho0); (try clear ho1); have hcz152_0 : w151.cell? ⟨gb9028, 0, none⟩ = some (.int .i64 t9075) := (blk_cell BK9028.out 0).trans rfl; have hcz152_1 : w151.cell? ⟨gb9028, 1, none⟩ = some (.slice Ao140 t9076.length co140) := (blk_cell BK9028.out 1).trans rfl; have hcz152_2 : w151.cell? ⟨gb9028, 2, none⟩ = some (.slice Ao141 t9079.length co141) := (blk_cell BK9028.out 2).trans rfl; have hfz152_0 := blk_frozen BK9028.out 0; have hfz152_1 := blk_frozen BK9028.out 1; have hfz152_2 := blk_frozen BK9028.out 2; obtain ⟨Ao153, co153, eo153⟩ := Kd.R_slice HO9095.out; subst eo153; obtain ⟨Ao154, co154, eo154⟩ := Kd.R_slice HO9098.out; subst eo154) | ((with_reducible refine gate_store (t := 44) (p := 14) rfl ?_); refine store_event (t := 44) (p := 14) (v := ?vo_w155) (w1 := (((w151.setCell ⟨gb9028, 0, none⟩ (.int .i64 t9092)).setCell ⟨gb9028, 1, none⟩ (.slice Ao153 t9093.length co153)).setCell ⟨gb9028, 2, none⟩ (.slice Ao154 t9096.length co154))) ?hg ?ho ?hn ?hr ?_; (case ho => rfl); (case hg => rfl); (case hn => rfl); (case hr => first | (go_simp; done) | (go_simp; rfl)); intro w155 hw; have n0_ : Aside0 (Kd.V (Kd.int .i64) 3 w155 w.heap.size (fun k_ => ((P0_1_ k_ ∨ P0_2_ k_) ∨ w.heap.size ≤ k_) ∧ some k_ ≠ (.slice Ao153 t9093.length co153 : Value).ownBlock ∧ some k_ ≠ (.slice Ao154 t9096.length co154 : Value).ownBlock ∧ k_ ≠ gb9001 ∧ k_ ≠ gb9002 ∧ k_ ≠ gb9028 ∧ k_ ≠ gb9037) (.slice Ao91 x9003001_5.length co91) x9003001_5) := ⟨(by rw [hw]; exact (Kd.V_ext (Kd.V_mono (Kd.V_far (p := ⟨gb9028, 2, none⟩) (Kd.V_far (p := ⟨gb9028, 1, none⟩) (Kd.V_far (p := ⟨gb9028, 0, none⟩) (Kd.V_mono HO_9003001.out (fun k_ hk => (⟨hk, hk.1.1.1.2.2.2.2.2.1⟩ : _ ∧ k_ ≠ gb9028))) (fun _ hk => hk.2) (.int .i64 t9092)) (fun _ hk => hk.2) (.slice Ao153 t9093.length co153)) (fun _ hk => hk.2) (.slice Ao154 t9096.length co154)) (fun _ hk => ⟨hk.1.1.1.1.1, ⟨hk.1.1.2, ⟨hk.1.2, ⟨hk.1.1.1.1.2.2.2.1, ⟨hk.1.1.1.1.2.2.2.2.1, ⟨hk.1.1.1.1.2.2.2.2.2.1, hk.1.1.1.1.2.2.2.2.2.2⟩⟩⟩⟩⟩⟩))))⟩; have n1_ : Aside0 (Kd.V (Kd.int .i64) 3 w155 w.heap.size (fun k_ => ((P0_1_ k_ ∨ P0_2_ k_) ∨ w.heap.size ≤ k_) ∧ some k_ ≠ (.slice Ao153 t9093.length co153 : Value).ownBlock ∧ some k_ ≠ (.slice Ao154 t9096.length co154 : Value).ownBlock ∧ k_ ≠ gb9001 ∧ k_ ≠ gb9002 ∧ k_ ≠ gb9028 ∧ k_ ≠ gb9037) (.slice Ao92 x9003002_5.length co92) x9003002_5) := ⟨(by rw [hw]; exact (Kd.V_ext (Kd.V_mono (Kd.V_far (p := ⟨gb9028, 2, none⟩) (Kd.V_far (p := ⟨gb9028, 1, none⟩) (Kd.V_far (p := ⟨gb9028, 0, none⟩) (Kd.V_mono HO_9003002.out (fun k_ hk => (⟨hk, hk.1.1.1.2.2.2.2.2.1⟩ : _ ∧ k_ ≠ gb9028))) (fun _ hk => hk.2) (.int .i64 t9092)) (fun _ hk => hk.2) (.slice Ao153 t9093.length co153)) (fun _ hk => hk.2) (.slice Ao154 t9096.length co154)) (fun _ hk => ⟨hk.1.1.1.1.1, ⟨hk.1.1.2, ⟨hk.1.2, ⟨hk.1.1.1.1.2.2.2.1, ⟨hk.1.1.1.1.2.2.2.2.1, ⟨hk.1.1.1.1.2.2.2.2.2.1, hk.1.1.1.1.2.2.2.2.2.2⟩⟩⟩⟩⟩⟩))))⟩; have n2_ : Aside0 (Kd.R (Kd.int .i64) 3 w155 w.heap.size (fun k_ => (w.heap.size ≤ k_) ∧ some k_ ≠ (.slice Ao154 t9096.length co154 : Value).ownBlock) (.slice Ao153 t9093.length co153) t9093) := ⟨(by rw [hw]; exact (Kd.R_ext (Kd.R_mono (Kd.R_far (p := ⟨gb9028, 2, none⟩) (Kd.R_far (p := ⟨gb9028, 1, none⟩) (Kd.R_far (p := ⟨gb9028, 0, none⟩) (Kd.R_types HO9095.out BK9028.out (by decide)) (fun _ hk => hk.2) (.int .i64 t9092)) (fun _ hk => hk.2) (.slice Ao153 t9093.length co153)) (fun _ hk => hk.2) (.slice Ao154 t9096.length co154)) (fun _ hk => ⟨hk.1.1, hk.1.2⟩))))⟩; have n3_ : Aside0 (Kd.R (Kd.int .i64) 3 w155 w.heap.size (fun k_ => (w.heap.size ≤ k_) ∧ some k_ ≠ (.slice Ao153 t9093.length co153 : Value).ownBlock) (.slice Ao154 t9096.length co154) t9096) := ⟨(by rw [hw]; exact (Kd.R_ext (Kd.R_mono (Kd.R_far (p := ⟨gb9028, 2, none⟩) (Kd.R_far (p := ⟨gb9028, 1, none⟩) (Kd.R_far (p := ⟨gb9028, 0, none⟩) (Kd.R_types HO9098.out BK9028.out (by decide)) (fun _ hk => hk.2) (.int .i64 t9092)) (fun _ hk => hk.2) (.slice Ao153 t9093.length co153)) (fun _ hk => hk.2) (.slice Ao154 t9096.length co154)) (fun _ hk => ⟨hk.1.1, hk.1.2⟩))))⟩; have n4_ : Aside0 (w155.heap[gb9001]? = some (.cells #[.int .i64 a0_0, .slice A0_1 l0_1.length c0_1, .slice A0_2 l0_2.length c0_2] 44 (0, 0))) := ⟨(by rw [hw]; exact (blk_extC BK9001.out))⟩; have n5_ : Aside0 (w155.heap[gb9002]? = some (.cells #[.int .i64 x9003000_5, .slice Ao91 x9003001_5.length co91, .slice Ao92 x9003002_5.length co92] 44 (0, 0))) := ⟨(by rw [hw]; exact (blk_extC BK9002.out))⟩; have n6_ : Aside0 (w155.heap[gb9028]? = some (.cells #[.int .i64 t9092, .slice Ao153 t9093.length co153, .slice Ao154 t9096.length co154] 44 (0, 0))) := ⟨(by rw [hw]; exact (by (with_reducible repeat (first | refine blk_drewN ?_ _ | refine blk_drew ?_ | refine blk_alloc ?_ _)); refine blk_put (cs := #[.int .i64 t9092, .slice Ao153 t9093.length co153, .slice Ao141 t9079.length co141]) ?_ 2 _ rfl; (with_reducible repeat (first | refine blk_drewN ?_ _ | refine blk_drew ?_ | refine blk_alloc ?_ _)); refine blk_put (cs := #[.int .i64 t9092, .slice Ao140 t9076.length co140, .slice Ao141 t9079.length co141]) ?_ 1 _ rfl; (with_reducible repeat (first | refine blk_drewN ?_ _ | refine blk_drew ?_ | refine blk_alloc ?_ _)); refine blk_put (cs := #[.int .i64 t9075, .slice Ao140 t9076.length co140, .slice Ao141 t9079.length co141]) ?_ 0 _ rfl; exact blk_ext BK9028.out))⟩; have n7_ : Aside0 (w155.heap[gb9037]? = some (.cells #[.int .i64 t9083, .slice Ao146 t9084.length co146, .slice Ao147 t9087.length co147] 44 (0, 0))) := ⟨(by rw [hw]; exact (blk_extC BK9037.out))⟩; have n8_ : Aside0 (Below w.heap.size w w155) := ⟨(by rw [hw]; exact (below_extB HB.out))⟩; clear hw; clear HO_9003001; clear HO_9003002; clear HO9095; clear HO9098; clear BK9001; clear BK9002; clear BK9028; clear BK9037; clear HB; have HO_9003001 := n0_; have HO_9003002 := n1_; have HO9095 := n2_; have HO9098 := n3_; have BK9001 := n4_; have BK9002 := n5_; have BK9028 := n6_; have BK9037 := n7_; have HB := n8_; clear n0_ n1_ n2_ n3_ n4_ n5_ n6_ n7_ n8_; have hcz156_0 : w155.cell? ⟨gb9002, 0, none⟩ = some (.int .i64 x9003000_5) := (blk_cell BK9002.out 0).trans rfl; have hcz156_1 : w155.cell? ⟨gb9002, 1, none⟩ = some (.slice Ao91 x9003001_5.length co91) := (blk_cell BK9002.out 1).trans rfl; have hcz156_2 : w155.cell? ⟨gb9002, 2, none⟩ = some (.slice Ao92 x9003002_5.length co92) := (blk_cell BK9002.out 2).trans rfl; have hfz156_0 := blk_frozen BK9002.out 0; have hfz156_1 := blk_frozen BK9002.out 1; have hfz156_2 := blk_frozen BK9002.out 2) | ((with_reducible refine gate_callee (f := 46) rfl ?_); refine goesL_ (some 180) rfl rfl Try.func46 (by kernel_rfl) rfl #[.agg #[.int .i64 x9003000_5, .slice Ao91 x9003001_5.length co91, .slice Ao92 x9003002_5.length co92], .int .i64 x2_5] rfl (by (try simp only [List.map_toArray, List.map_cons, List.map_nil]); first | done | rfl | (simp only [List.length_drop, List.length_take]; rfl)) ?_; (with_reducible refine (customsref33_Confirm.calls x9003000_5 (fun k_ => (((P0_1_ k_ ∨ P0_2_ k_) ∨ w.heap.size ≤ k_) ∧ (some k_ ≠ (.slice Ao153 t9093.length co153 : Value).ownBlock ∧ (some k_ ≠ (.slice Ao154 t9096.length co154 : Value).ownBlock ∧ (k_ ≠ gb9001 ∧ (k_ ≠ gb9002 ∧ (k_ ≠ gb9028 ∧ k_ ≠ gb9037))))))) _ _ x9003001_5 _ _ x9003002_5 x2_5 t9100 t9101 t9104 t9107 _ ?side1 ?side2 ?side3 A76.out).mono ?_); (case side1 => exact HO_9003001.out); (case side2 => exact Kd.C_ext (Kd.V_reads' HO_9003002.out).2.2); (case side3 => exact (Kd.V_reads' HO_9003002.out).2.1); rintro e w157 ⟨v9102, v9105, rfl, ho0, ho1, hb⟩; refine ⟨_, rfl, ?_⟩; have n4_ := Aside0.mk (Kd.V_lower (Kd.V_mono (ok' := fun k_ => ((P0_1_ k_ ∨ P0_2_ k_) ∨ w.heap.size ≤ k_) ∧ some k_ ≠ (v9105 : Value).ownBlock ∧ some k_ ≠ (.slice Ao153 t9093.length co153 : Value).ownBlock ∧ some k_ ≠ (.slice Ao154 t9096.length co154 : Value).ownBlock ∧ k_ ≠ gb9001 ∧ k_ ≠ gb9002 ∧ k_ ≠ gb9028 ∧ k_ ≠ gb9037) ho0 (fun k_ hk_ => ⟨Or.elim hk_.1 (fun hs_ => hs_.1) (fun hn_ => (.inr (Nat.le_trans (below_size (below_extB HB.out)) hn_))), hk_.2, Or.elim hk_.1 (fun hs_ => hs_.2.1) (fun hn_ => (Kd.fresh' (Kd.R_lt (Kd.R_ext HO9095.out)) k_ hn_)), Or.elim hk_.1 (fun hs_ => hs_.2.2.1) (fun hn_ => (Kd.fresh' (Kd.R_lt (Kd.R_ext HO9098.out)) k_ hn_)), Or.elim hk_.1 (fun hs_ => hs_.2.2.2.1) (fun hn_ => (Kd.freshB (blk_ext BK9001.out) k_ hn_)), Or.elim hk_.1 (fun hs_ => hs_.2.2.2.2.1) (fun hn_ => (Kd.freshB (blk_ext BK9002.out) k_ hn_)), Or.elim hk_.1 (fun hs_ => hs_.2.2.2.2.2.1) (fun hn_ => (Kd.freshB (blk_ext BK9028.out) k_ hn_)), Or.elim hk_.1 (fun hs_ => hs_.2.2.2.2.2.2) (fun hn_ => (Kd.freshB (blk_ext BK9037.out) k_ hn_))⟩)) (below_size (below_extB HB.out))); have n5_ := Aside0.mk (Kd.R_lower (Kd.R_new' (Kd.R_new' (Kd.R_newM (M := fun k_ => (w.heap.size ≤ k_)) (Kd.R_mono (ok' := fun k_ => True) ho1 (fun _ hk_ => trivial)) (below_size (below_extB HB.out)) (fun k_ h_ => h_)) (Kd.R_lt (Kd.R_ext HO9095.out))) (Kd.R_lt (Kd.R_ext HO9098.out))) (below_size (below_extB HB.out))); have HO9103 := n4_; have HO9106 := n5_; replace HO_9003001 := apV HO_9003001 hb (Kd.R_base ho1); replace HO_9003002 := apV HO_9003002 hb (Kd.R_base ho1); replace HO9095 := apR HO9095 hb (Kd.R_base ho1); replace HO9098 := apR HO9098 hb (Kd.R_base ho1); replace BK9001 := mvB BK9001 hb; replace BK9002 := mvB BK9002 hb; replace BK9028 := mvB BK9028 hb; replace BK9037 := mvB BK9037 hb; replace HB := mvH HB hb; clear n4_ n5_; (try clear hb); (try clear hb2); (try clear hk); (try clear hi); (try clear ho0); (try clear ho1); have hcz158_0 : w157.cell? ⟨gb9037, 0, none⟩ = some (.int .i64 t9083) := (blk_cell BK9037.out 0).trans rfl; have hcz158_1 : w157.cell? ⟨gb9037, 1, none⟩ = some (.slice Ao146 t9084.length co146) := (blk_cell BK9037.out 1).trans rfl; have hcz158_2 : w157.cell? ⟨gb9037, 2, none⟩ = some (.slice Ao147 t9087.length co147) := (blk_cell BK9037.out 2).trans rfl; have hfz158_0 := blk_frozen BK9037.out 0; have hfz158_1 := blk_frozen BK9037.out 1; have hfz158_2 := blk_frozen BK9037.out 2; obtain ⟨Ao159, co159, eo159⟩ := Kd.V_slice HO9103.out; subst eo159; obtain ⟨Ao160, co160, eo160⟩ := Kd.R_slice HO9106.out; subst eo160; have hcz161_0 : w157.cell? ⟨gb9028, 0, none⟩ = some (.int .i64 t9092) := (blk_cell BK9028.out 0).trans rfl; have hcz161_1 : w157.cell? ⟨gb9028, 1, none⟩ = some (.slice Ao153 t9093.length co153) := (blk_cell BK9028.out 1).trans rfl; have hcz161_2 : w157.cell? ⟨gb9028, 2, none⟩ = some (.slice Ao154 t9096.length co154) := (blk_cell BK9028.out 2).trans rfl; have hfz161_0 := blk_frozen BK9028.out 0; have hfz161_1 := blk_frozen BK9028.out 1; have hfz161_2 := blk_frozen BK9028.out 2) | (go_at_call 35; (with_reducible refine (customsref33_SameLine.calls kj5 t9092 _ _ t9093 _ _ t9096 t9100 _ _ t9101 _ _ t9104 true _ ?side1 ?side2 ?side3 ?side4 ?side5 ?side6 ?side7 ?side8 A78.out).mono ?_); (case side1 => refine (Kd.R_reads' (e := 3) (base := w.heap.size) (ok := fun k_ => (((w.heap.size ≤ k_) ∧ some k_ ≠ (.slice Ao154 t9096.length co154 : Value).ownBlock) ∧ some k_ ≠ (.slice Ao160 t9104.length co160 : Value).ownBlock)) (n := t9093.length) (c := co153) ?_).2.2; exact (Kd.R_ext ((Kd.R_mono (Kd.R_far (p := ⟨gb9037, 2, none⟩) (Kd.R_far (p := ⟨gb9037, 1, none⟩) (Kd.R_far (p := ⟨gb9037, 0, none⟩) (Kd.R_types HO9095.out BK9037.out (by decide)) (fun _ hk => hk.2) (.int .i64 t9100)) (fun _ hk => hk.2) (.slice Ao159 t9101.length co159)) (fun _ hk => hk.2) (.slice Ao160 t9104.length co160)) (fun _ h_ => h_.1))))); (case side2 => exact (Kd.R_reads' HO9095.out).2.1); (case side3 => refine (Kd.R_reads' (e := 3) (base := w.heap.size) (ok := fun k_ => (((w.heap.size ≤ k_) ∧ some k_ ≠ (.slice Ao153 t9093.length co153 : Value).ownBlock) ∧ some k_ ≠ (.slice Ao160 t9104.length co160 : Value).ownBlock)) (n := t9096.length) (c := co154) ?_).2.2; exact (Kd.R_ext ((Kd.R_mono (Kd.R_far (p := ⟨gb9037, 2, none⟩) (Kd.R_far (p := ⟨gb9037, 1, none⟩) (Kd.R_far (p := ⟨gb9037, 0, none⟩) (Kd.R_types HO9098.out BK9037.out (by decide)) (fun _ hk => hk.2) (.int .i64 t9100)) (fun _ hk => hk.2) (.slice Ao159 t9101.length co159)) (fun _ hk => hk.2) (.slice Ao160 t9104.length co160)) (fun _ h_ => h_.1))))); (case side4 => exact (Kd.R_reads' HO9098.out).2.1); (case side5 => refine (Kd.V_reads' (e := 3) (base := w.heap.size) (ok := fun k_ => ((((P0_1_ k_ ∨ P0_2_ k_) ∨ w.heap.size ≤ k_)) ∧ (some k_ ≠ (.slice Ao160 t9104.length co160 : Value).ownBlock ∧ (some k_ ≠ (.slice Ao153 t9093.length co153 : Value).ownBlock ∧ (some k_ ≠ (.slice Ao154 t9096.length co154 : Value).ownBlock ∧ (k_ ≠ gb9001 ∧ (k_ ≠ gb9002 ∧ (k_ ≠ gb9028 ∧ k_ ≠ gb9037)))))))) (n := t9101.length) (c := co159) ?_).2.2; exact (Kd.V_ext ((Kd.V_mono (Kd.V_far (p := ⟨gb9037, 2, none⟩) (Kd.V_far (p := ⟨gb9037, 1, none⟩) (Kd.V_far (p := ⟨gb9037, 0, none⟩) (Kd.V_mono HO9103.out (fun k_ hk => (⟨hk, hk.2.2.2.2.2.2.2⟩ : _ ∧ k_ ≠ gb9037))) (fun _ hk => hk.2) (.int .i64 t9100)) (fun _ hk => hk.2) (.slice Ao159 t9101.length co159)) (fun _ hk => hk.2) (.slice Ao160 t9104.length co160)) (fun _ h_ => h_.1))))); (case side6 => exact (Kd.V_reads' HO9103.out).2.1); (case side7 => refine (Kd.R_reads' (e := 3) (base := w.heap.size) (ok := fun k_ => ((((w.heap.size ≤ k_) ∧ True) ∧ some k_ ≠ (.slice Ao153 t9093.length co153 : Value).ownBlock) ∧ some k_ ≠ (.slice Ao154 t9096.length co154 : Value).ownBlock)) (n := t9104.length) (c := co160) ?_).2.2; exact (Kd.R_ext ((Kd.R_mono (Kd.R_far (p := ⟨gb9037, 2, none⟩) (Kd.R_far (p := ⟨gb9037, 1, none⟩) (Kd.R_far (p := ⟨gb9037, 0, none⟩) (Kd.R_types HO9106.out BK9037.out (by decide)) (fun _ hk => hk.2) (.int .i64 t9100)) (fun _ hk => hk.2) (.slice Ao159 t9101.length co159)) (fun _ hk => hk.2) (.slice Ao160 t9104.length co160)) (fun _ h_ => h_.1))))); (case side8 => exact (Kd.R_reads' HO9106.out).2.1); rintro e w162 ⟨rfl, hb⟩; have n0_ := Aside0.mk (Kd.V_below (Kd.V_ext ((Kd.V_mono (Kd.V_far (p := ⟨gb9037, 2, none⟩) (Kd.V_far (p := ⟨gb9037, 1, none⟩) (Kd.V_far (p := ⟨gb9037, 0, none⟩) (Kd.V_mono HO_9003001.out (fun k_ hk => (⟨hk, hk.1.2.2.2.2.2.2⟩ : _ ∧ k_ ≠ gb9037))) (fun _ hk => hk.2) (.int .i64 t9100)) (fun _ hk => hk.2) (.slice Ao159 t9101.length co159)) (fun _ hk => hk.2) (.slice Ao160 t9104.length co160)) (fun _ h_ => h_.1)))) hb); have n1_ := Aside0.mk (Kd.V_below (Kd.V_ext ((Kd.V_mono (Kd.V_far (p := ⟨gb9037, 2, none⟩) (Kd.V_far (p := ⟨gb9037, 1, none⟩) (Kd.V_far (p := ⟨gb9037, 0, none⟩) (Kd.V_mono HO_9003002.out (fun k_ hk => (⟨hk, hk.1.2.2.2.2.2.2⟩ : _ ∧ k_ ≠ gb9037))) (fun _ hk => hk.2) (.int .i64 t9100)) (fun _ hk => hk.2) (.slice Ao159 t9101.length co159)) (fun _ hk => hk.2) (.slice Ao160 t9104.length co160)) (fun _ h_ => h_.1)))) hb); have n2_ := Aside0.mk (Kd.R_below (Kd.R_ext ((Kd.R_mono (Kd.R_far (p := ⟨gb9037, 2, none⟩) (Kd.R_far (p := ⟨gb9037, 1, none⟩) (Kd.R_far (p := ⟨gb9037, 0, none⟩) (Kd.R_types HO9095.out BK9037.out (by decide)) (fun _ hk => hk.2) (.int .i64 t9100)) (fun _ hk => hk.2) (.slice Ao159 t9101.length co159)) (fun _ hk => hk.2) (.slice Ao160 t9104.length co160)) (fun _ h_ => h_.1)))) hb); have n3_ := Aside0.mk (Kd.R_below (Kd.R_ext ((Kd.R_mono (Kd.R_far (p := ⟨gb9037, 2, none⟩) (Kd.R_far (p := ⟨gb9037, 1, none⟩) (Kd.R_far (p := ⟨gb9037, 0, none⟩) (Kd.R_types HO9098.out BK9037.out (by decide)) (fun _ hk => hk.2) (.int .i64 t9100)) (fun _ hk => hk.2) (.slice Ao159 t9101.length co159)) (fun _ hk => hk.2) (.slice Ao160 t9104.length co160)) (fun _ h_ => h_.1)))) hb); have n4_ := Aside0.mk (Kd.V_below (Kd.V_ext ((Kd.V_mono (Kd.V_far (p := ⟨gb9037, 2, none⟩) (Kd.V_far (p := ⟨gb9037, 1, none⟩) (Kd.V_far (p := ⟨gb9037, 0, none⟩) (Kd.V_mono HO9103.out (fun k_ hk => (⟨hk, hk.2.2.2.2.2.2.2⟩ : _ ∧ k_ ≠ gb9037))) (fun _ hk => hk.2) (.int .i64 t9100)) (fun _ hk => hk.2) (.slice Ao159 t9101.length co159)) (fun _ hk => hk.2) (.slice Ao160 t9104.length co160)) (fun _ h_ => h_.1)))) hb); have n5_ := Aside0.mk (Kd.R_below (Kd.R_ext ((Kd.R_mono (Kd.R_far (p := ⟨gb9037, 2, none⟩) (Kd.R_far (p := ⟨gb9037, 1, none⟩) (Kd.R_far (p := ⟨gb9037, 0, none⟩) (Kd.R_types HO9106.out BK9037.out (by decide)) (fun _ hk => hk.2) (.int .i64 t9100)) (fun _ hk => hk.2) (.slice Ao159 t9101.length co159)) (fun _ hk => hk.2) (.slice Ao160 t9104.length co160)) (fun _ h_ => h_.1)))) hb); have n6_ := Aside0.mk (blk_below (blk_extC BK9001.out) hb); have n7_ := Aside0.mk (blk_below (blk_extC BK9002.out) hb); have n8_ := Aside0.mk (blk_below (blk_extC BK9028.out) hb); have n9_ := Aside0.mk (blk_below (g := gb9037) (o := .cells #[.int .i64 t9100, .slice Ao159 t9101.length co159, .slice Ao160 t9104.length co160] 44 (0, 0)) (by (with_reducible repeat (first | refine blk_drewN ?_ _ | refine blk_drew ?_ | refine blk_alloc ?_ _)); refine blk_put (cs := #[.int .i64 t9100, .slice Ao159 t9101.length co159, .slice Ao147 t9087.length co147]) ?_ 2 _ rfl; (with_reducible repeat (first | refine blk_drewN ?_ _ | refine blk_drew ?_ | refine blk_alloc ?_ _)); refine blk_put (cs := #[.int .i64 t9100, .slice Ao146 t9084.length co146, .slice Ao147 t9087.length co147]) ?_ 1 _ rfl; (with_reducible repeat (first | refine blk_drewN ?_ _ | refine blk_drew ?_ | refine blk_alloc ?_ _)); refine blk_put (cs := #[.int .i64 t9083, .slice Ao146 t9084.length co146, .slice Ao147 t9087.length co147]) ?_ 0 _ rfl; exact blk_ext BK9037.out) hb); clear HO_9003001; clear HO_9003002; clear HO9095; clear HO9098; clear HO9103; clear HO9106; clear BK9001; clear BK9002; clear BK9028; clear BK9037; have HO_9003001 := n0_; have HO_9003002 := n1_; have HO9095 := n2_; have HO9098 := n3_; have HO9103 := n4_; have HO9106 := n5_; have BK9001 := n6_; have BK9002 := n7_; have BK9028 := n8_; have BK9037 := n9_; replace HB := mvH HB hb; clear n0_ n1_ n2_ n3_ n4_ n5_ n6_ n7_ n8_ n9_; (try clear hb); (try clear hb2); (try clear hk); (try clear hi); have hcz163_0 : w162.cell? ⟨gb9002, 0, none⟩ = some (.int .i64 x9003000_5) := (blk_cell BK9002.out 0).trans rfl; have hcz163_1 : w162.cell? ⟨gb9002, 1, none⟩ = some (.slice Ao91 x9003001_5.length co91) := (blk_cell BK9002.out 1).trans rfl; have hcz163_2 : w162.cell? ⟨gb9002, 2, none⟩ = some (.slice Ao92 x9003002_5.length co92) := (blk_cell BK9002.out 2).trans rfl; have hfz163_0 := blk_frozen BK9002.out 0; have hfz163_1 := blk_frozen BK9002.out 1; have hfz163_2 := blk_frozen BK9002.out 2) | ((with_reducible refine gate_callee (f := 47) rfl ?_); refine goesL_ (some 195) rfl rfl Try.func47 (by kernel_rfl) rfl #[.agg #[.int .i64 x9003000_5, .slice Ao91 x9003001_5.length co91, .slice Ao92 x9003002_5.length co92], .int .i64 x2_5] rfl (by (try simp only [List.map_toArray, List.map_cons, List.map_nil]); first | done | rfl | (simp only [List.length_drop, List.length_take]; rfl)) ?_; (with_reducible refine (channel_Forget.calls x9003000_5 _ _ x9003001_5 _ _ x9003002_5 x2_5 t9109 t9110 t9113 t9116 _ ?side1 ?side2 ?side3 ?side4 A80.out).mono ?_); (case side1 => exact Kd.C_ext (Kd.V_reads' HO_9003001.out).2.2); (case side2 => exact (Kd.V_reads' HO_9003001.out).2.1); (case side3 => exact Kd.C_ext (Kd.V_reads' HO_9003002.out).2.2); (case side4 => exact (Kd.V_reads' HO_9003002.out).2.1); rintro e w164 ⟨v9111, v9114, rfl, ho0, ho1, hb⟩; refine ⟨_, rfl, ?_⟩; have n2_ := Aside0.mk (Kd.R_lower (Kd.R_newM (M := fun k_ => (w.heap.size ≤ k_)) ho0 (below_size (below_extB HB.out)) (fun k_ h_ => h_)) (below_size (below_extB HB.out))); have n3_ := Aside0.mk (Kd.R_lower (Kd.R_newM (M := fun k_ => (w.heap.size ≤ k_)) ho1 (below_size (below_extB HB.out)) (fun k_ h_ => h_)) (below_size (below_extB HB.out))); have HO9112 := n2_; have HO9115 := n3_; replace HO_9003001 := tdV2 HO_9003001 hb (Kd.R_base ho0) (Kd.R_base ho1); replace HO_9003002 := tdV2 HO_9003002 hb (Kd.R_base ho0) (Kd.R_base ho1); replace BK9001 := mvB BK9001 hb; replace BK9002 := mvB BK9002 hb; replace BK9028 := mvB BK9028 hb; replace BK9037 := mvB BK9037 hb; replace HB := mvH HB hb; clear n2_ n3_; (try clear hb); (try clear hb2); (try clear hk); (try clear hi); (try clear ho0); (try clear ho1); have hcz165_0 : w164.cell? ⟨gb9028, 0, none⟩ = some (.int .i64 t9092) := (blk_cell BK9028.out 0).trans rfl; have hcz165_1 : w164.cell? ⟨gb9028, 1, none⟩ = some (.slice Ao153 t9093.length co153) := (blk_cell BK9028.out 1).trans rfl; have hcz165_2 : w164.cell? ⟨gb9028, 2, none⟩ = some (.slice Ao154 t9096.length co154) := (blk_cell BK9028.out 2).trans rfl; have hfz165_0 := blk_frozen BK9028.out 0; have hfz165_1 := blk_frozen BK9028.out 1; have hfz165_2 := blk_frozen BK9028.out 2; obtain ⟨Ao166, co166, eo166⟩ := Kd.R_slice HO9112.out; subst eo166; obtain ⟨Ao167, co167, eo167⟩ := Kd.R_slice HO9115.out; subst eo167) | ((with_reducible refine gate_store (t := 44) (p := 14) rfl ?_); refine store_event (t := 44) (p := 14) (v := ?vo_w168) (w1 := (((w164.setCell ⟨gb9028, 0, none⟩ (.int .i64 t9109)).setCell ⟨gb9028, 1, none⟩ (.slice Ao166 t9110.length co166)).setCell ⟨gb9028, 2, none⟩ (.slice Ao167 t9113.length co167))) ?hg ?ho ?hn ?hr ?_; (case ho => rfl); (case hg => rfl); (case hn => rfl); (case hr => first | (go_simp; done) | (go_simp; rfl)); intro w168 hw; have n0_ : Aside0 (Kd.V (Kd.int .i64) 3 w168 w.heap.size (fun k_ => ((P0_1_ k_ ∨ P0_2_ k_) ∨ w.heap.size ≤ k_) ∧ some k_ ≠ (.slice Ao166 t9110.length co166 : Value).ownBlock ∧ some k_ ≠ (.slice Ao167 t9113.length co167 : Value).ownBlock ∧ k_ ≠ gb9001 ∧ k_ ≠ gb9002 ∧ k_ ≠ gb9028 ∧ k_ ≠ gb9037) (.slice Ao91 x9003001_5.length co91) x9003001_5) := ⟨(by rw [hw]; exact (Kd.V_ext (Kd.V_mono (Kd.V_far (p := ⟨gb9028, 2, none⟩) (Kd.V_far (p := ⟨gb9028, 1, none⟩) (Kd.V_far (p := ⟨gb9028, 0, none⟩) (Kd.V_mono HO_9003001.out (fun k_ hk => (⟨hk, hk.1.1.1.2.2.2.2.2.1⟩ : _ ∧ k_ ≠ gb9028))) (fun _ hk => hk.2) (.int .i64 t9109)) (fun _ hk => hk.2) (.slice Ao166 t9110.length co166)) (fun _ hk => hk.2) (.slice Ao167 t9113.length co167)) (fun _ hk => ⟨hk.1.1.1.1.1, ⟨hk.1.1.2, ⟨hk.1.2, ⟨hk.1.1.1.1.2.2.2.1, ⟨hk.1.1.1.1.2.2.2.2.1, ⟨hk.1.1.1.1.2.2.2.2.2.1, hk.1.1.1.1.2.2.2.2.2.2⟩⟩⟩⟩⟩⟩))))⟩; have n1_ : Aside0 (Kd.V (Kd.int .i64) 3 w168 w.heap.size (fun k_ => ((P0_1_ k_ ∨ P0_2_ k_) ∨ w.heap.size ≤ k_) ∧ some k_ ≠ (.slice Ao166 t9110.length co166 : Value).ownBlock ∧ some k_ ≠ (.slice Ao167 t9113.length co167 : Value).ownBlock ∧ k_ ≠ gb9001 ∧ k_ ≠ gb9002 ∧ k_ ≠ gb9028 ∧ k_ ≠ gb9037) (.slice Ao92 x9003002_5.length co92) x9003002_5) := ⟨(by rw [hw]; exact (Kd.V_ext (Kd.V_mono (Kd.V_far (p := ⟨gb9028, 2, none⟩) (Kd.V_far (p := ⟨gb9028, 1, none⟩) (Kd.V_far (p := ⟨gb9028, 0, none⟩) (Kd.V_mono HO_9003002.out (fun k_ hk => (⟨hk, hk.1.1.1.2.2.2.2.2.1⟩ : _ ∧ k_ ≠ gb9028))) (fun _ hk => hk.2) (.int .i64 t9109)) (fun _ hk => hk.2) (.slice Ao166 t9110.length co166)) (fun _ hk => hk.2) (.slice Ao167 t9113.length co167)) (fun _ hk => ⟨hk.1.1.1.1.1, ⟨hk.1.1.2, ⟨hk.1.2, ⟨hk.1.1.1.1.2.2.2.1, ⟨hk.1.1.1.1.2.2.2.2.1, ⟨hk.1.1.1.1.2.2.2.2.2.1, hk.1.1.1.1.2.2.2.2.2.2⟩⟩⟩⟩⟩⟩))))⟩; have n2_ : Aside0 (Kd.R (Kd.int .i64) 3 w168 w.heap.size (fun k_ => (w.heap.size ≤ k_) ∧ some k_ ≠ (.slice Ao167 t9113.length co167 : Value).ownBlock) (.slice Ao166 t9110.length co166) t9110) := ⟨(by rw [hw]; exact (Kd.R_ext (Kd.R_mono (Kd.R_far (p := ⟨gb9028, 2, none⟩) (Kd.R_far (p := ⟨gb9028, 1, none⟩) (Kd.R_far (p := ⟨gb9028, 0, none⟩) (Kd.R_types HO9112.out BK9028.out (by decide)) (fun _ hk => hk.2) (.int .i64 t9109)) (fun _ hk => hk.2) (.slice Ao166 t9110.length co166)) (fun _ hk => hk.2) (.slice Ao167 t9113.length co167)) (fun _ hk => ⟨hk.1.1, hk.1.2⟩))))⟩; have n3_ : Aside0 (Kd.R (Kd.int .i64) 3 w168 w.heap.size (fun k_ => (w.heap.size ≤ k_) ∧ some k_ ≠ (.slice Ao166 t9110.length co166 : Value).ownBlock) (.slice Ao167 t9113.length co167) t9113) := ⟨(by rw [hw]; exact (Kd.R_ext (Kd.R_mono (Kd.R_far (p := ⟨gb9028, 2, none⟩) (Kd.R_far (p := ⟨gb9028, 1, none⟩) (Kd.R_far (p := ⟨gb9028, 0, none⟩) (Kd.R_types HO9115.out BK9028.out (by decide)) (fun _ hk => hk.2) (.int .i64 t9109)) (fun _ hk => hk.2) (.slice Ao166 t9110.length co166)) (fun _ hk => hk.2) (.slice Ao167 t9113.length co167)) (fun _ hk => ⟨hk.1.1, hk.1.2⟩))))⟩; have n4_ : Aside0 (w168.heap[gb9001]? = some (.cells #[.int .i64 a0_0, .slice A0_1 l0_1.length c0_1, .slice A0_2 l0_2.length c0_2] 44 (0, 0))) := ⟨(by rw [hw]; exact (blk_extC BK9001.out))⟩; have n5_ : Aside0 (w168.heap[gb9002]? = some (.cells #[.int .i64 x9003000_5, .slice Ao91 x9003001_5.length co91, .slice Ao92 x9003002_5.length co92] 44 (0, 0))) := ⟨(by rw [hw]; exact (blk_extC BK9002.out))⟩; have n6_ : Aside0 (w168.heap[gb9028]? = some (.cells #[.int .i64 t9109, .slice Ao166 t9110.length co166, .slice Ao167 t9113.length co167] 44 (0, 0))) := ⟨(by rw [hw]; exact (by (with_reducible repeat (first | refine blk_drewN ?_ _ | refine blk_drew ?_ | refine blk_alloc ?_ _)); refine blk_put (cs := #[.int .i64 t9109, .slice Ao166 t9110.length co166, .slice Ao154 t9096.length co154]) ?_ 2 _ rfl; (with_reducible repeat (first | refine blk_drewN ?_ _ | refine blk_drew ?_ | refine blk_alloc ?_ _)); refine blk_put (cs := #[.int .i64 t9109, .slice Ao153 t9093.length co153, .slice Ao154 t9096.length co154]) ?_ 1 _ rfl; (with_reducible repeat (first | refine blk_drewN ?_ _ | refine blk_drew ?_ | refine blk_alloc ?_ _)); refine blk_put (cs := #[.int .i64 t9092, .slice Ao153 t9093.length co153, .slice Ao154 t9096.length co154]) ?_ 0 _ rfl; exact blk_ext BK9028.out))⟩; have n7_ : Aside0 (w168.heap[gb9037]? = some (.cells #[.int .i64 t9100, .slice Ao159 t9101.length co159, .slice Ao160 t9104.length co160] 44 (0, 0))) := ⟨(by rw [hw]; exact (blk_extC BK9037.out))⟩; have n8_ : Aside0 (Below w.heap.size w w168) := ⟨(by rw [hw]; exact (below_extB HB.out))⟩; clear hw; clear HO_9003001; clear HO_9003002; clear HO9112; clear HO9115; clear BK9001; clear BK9002; clear BK9028; clear BK9037; clear HB; have HO_9003001 := n0_; have HO_9003002 := n1_; have HO9112 := n2_; have HO9115 := n3_; have BK9001 := n4_; have BK9002 := n5_; have BK9028 := n6_; have BK9037 := n7_; have HB := n8_; clear n0_ n1_ n2_ n3_ n4_ n5_ n6_ n7_ n8_; have hcz169_0 : w168.cell? ⟨gb9002, 0, none⟩ = some (.int .i64 x9003000_5) := (blk_cell BK9002.out 0).trans rfl; have hcz169_1 : w168.cell? ⟨gb9002, 1, none⟩ = some (.slice Ao91 x9003001_5.length co91) := (blk_cell BK9002.out 1).trans rfl; have hcz169_2 : w168.cell? ⟨gb9002, 2, none⟩ = some (.slice Ao92 x9003002_5.length co92) := (blk_cell BK9002.out 2).trans rfl; have hfz169_0 := blk_frozen BK9002.out 0; have hfz169_1 := blk_frozen BK9002.out 1; have hfz169_2 := blk_frozen BK9002.out 2) | ((with_reducible refine gate_callee (f := 48) rfl ?_); refine goesL_ (some 201) rfl rfl Try.func48 (by kernel_rfl) rfl #[.agg #[.int .i64 x9003000_5, .slice Ao91 x9003001_5.length co91, .slice Ao92 x9003002_5.length co92], .int .i64 x2_5] rfl (by (try simp only [List.map_toArray, List.map_cons, List.map_nil]); first | done | rfl | (simp only [List.length_drop, List.length_take]; rfl)) ?_; (with_reducible refine (customsref33_Forget.calls x9003000_5 (fun k_ => (((P0_1_ k_ ∨ P0_2_ k_) ∨ w.heap.size ≤ k_) ∧ (some k_ ≠ (.slice Ao166 t9110.length co166 : Value).ownBlock ∧ (some k_ ≠ (.slice Ao167 t9113.length co167 : Value).ownBlock ∧ (k_ ≠ gb9001 ∧ (k_ ≠ gb9002 ∧ (k_ ≠ gb9028 ∧ k_ ≠ gb9037))))))) _ _ x9003001_5 _ _ x9003002_5 x2_5 t9117 t9118 t9121 t9124 _ ?side1 ?side2 ?side3 A81.out).mono ?_); (case side1 => exact HO_9003001.out); (case side2 => exact Kd.C_ext (Kd.V_reads' HO_9003002.out).2.2); (case side3 => exact (Kd.V_reads' HO_9003002.out).2.1); rintro e w170 ⟨v9119, v9122, rfl, ho0, ho1, hb⟩; refine ⟨_, rfl, ?_⟩; have n4_ := Aside0.mk (Kd.V_lower (Kd.V_mono (ok' := fun k_ => ((P0_1_ k_ ∨ P0_2_ k_) ∨ w.heap.size ≤ k_) ∧ some k_ ≠ (v9122 : Value).ownBlock ∧ some k_ ≠ (.slice Ao166 t9110.length co166 : Value).ownBlock ∧ some k_ ≠ (.slice Ao167 t9113.length co167 : Value).ownBlock ∧ k_ ≠ gb9001 ∧ k_ ≠ gb9002 ∧ k_ ≠ gb9028 ∧ k_ ≠ gb9037) ho0 (fun k_ hk_ => ⟨Or.elim hk_.1 (fun hs_ => hs_.1) (fun hn_ => (.inr (Nat.le_trans (below_size (below_extB HB.out)) hn_))), hk_.2, Or.elim hk_.1 (fun hs_ => hs_.2.1) (fun hn_ => (Kd.fresh' (Kd.R_lt (Kd.R_ext HO9112.out)) k_ hn_)), Or.elim hk_.1 (fun hs_ => hs_.2.2.1) (fun hn_ => (Kd.fresh' (Kd.R_lt (Kd.R_ext HO9115.out)) k_ hn_)), Or.elim hk_.1 (fun hs_ => hs_.2.2.2.1) (fun hn_ => (Kd.freshB (blk_ext BK9001.out) k_ hn_)), Or.elim hk_.1 (fun hs_ => hs_.2.2.2.2.1) (fun hn_ => (Kd.freshB (blk_ext BK9002.out) k_ hn_)), Or.elim hk_.1 (fun hs_ => hs_.2.2.2.2.2.1) (fun hn_ => (Kd.freshB (blk_ext BK9028.out) k_ hn_)), Or.elim hk_.1 (fun hs_ => hs_.2.2.2.2.2.2) (fun hn_ => (Kd.freshB (blk_ext BK9037.out) k_ hn_))⟩)) (below_size (below_extB HB.out))); have n5_ := Aside0.mk (Kd.R_lower (Kd.R_new' (Kd.R_new' (Kd.R_newM (M := fun k_ => (w.heap.size ≤ k_)) (Kd.R_mono (ok' := fun k_ => True) ho1 (fun _ hk_ => trivial)) (below_size (below_extB HB.out)) (fun k_ h_ => h_)) (Kd.R_lt (Kd.R_ext HO9112.out))) (Kd.R_lt (Kd.R_ext HO9115.out))) (below_size (below_extB HB.out))); have HO9120 := n4_; have HO9123 := n5_; replace HO_9003001 := apV HO_9003001 hb (Kd.R_base ho1); replace HO_9003002 := apV HO_9003002 hb (Kd.R_base ho1); replace HO9112 := apR HO9112 hb (Kd.R_base ho1); replace HO9115 := apR HO9115 hb (Kd.R_base ho1); replace BK9001 := mvB BK9001 hb; replace BK9002 := mvB BK9002 hb; replace BK9028 := mvB BK9028 hb; replace BK9037 := mvB BK9037 hb; replace HB := mvH HB hb; clear n4_ n5_; (try clear hb); (try clear hb2); (try clear hk); (try clear hi); (try clear ho0); (try clear ho1); have hcz171_0 : w170.cell? ⟨gb9037, 0, none⟩ = some (.int .i64 t9100) := (blk_cell BK9037.out 0).trans rfl; have hcz171_1 : w170.cell? ⟨gb9037, 1, none⟩ = some (.slice Ao159 t9101.length co159) := (blk_cell BK9037.out 1).trans rfl; have hcz171_2 : w170.cell? ⟨gb9037, 2, none⟩ = some (.slice Ao160 t9104.length co160) := (blk_cell BK9037.out 2).trans rfl; have hfz171_0 := blk_frozen BK9037.out 0; have hfz171_1 := blk_frozen BK9037.out 1; have hfz171_2 := blk_frozen BK9037.out 2; obtain ⟨Ao172, co172, eo172⟩ := Kd.V_slice HO9120.out; subst eo172; obtain ⟨Ao173, co173, eo173⟩ := Kd.R_slice HO9123.out; subst eo173))
                        have n0_ : Aside0 (Kd.V (Kd.int .i64) 3 (((w170.setCell ⟨gb9037, 0, none⟩ (.int .i64 t9117)).setCell ⟨gb9037, 1, none⟩ (.slice Ao172 t9118.length co172)).setCell ⟨gb9037, 2, none⟩ (.slice Ao173 t9121.length co173)) w.heap.size (fun k_ => ((P0_1_ k_ ∨ P0_2_ k_) ∨ w.heap.size ≤ k_) ∧ some k_ ≠ (.slice Ao166 t9110.length co166 : Value).ownBlock ∧ some k_ ≠ (.slice Ao167 t9113.length co167 : Value).ownBlock ∧ some k_ ≠ (.slice Ao173 t9121.length co173 : Value).ownBlock ∧ k_ ≠ gb9001 ∧ k_ ≠ gb9002 ∧ k_ ≠ gb9028 ∧ k_ ≠ gb9037) (.slice Ao91 x9003001_5.length co91) x9003001_5) := ⟨Kd.V_ext (Kd.V_mono (Kd.V_far (p := ⟨gb9037, 2, none⟩) (Kd.V_far (p := ⟨gb9037, 1, none⟩) (Kd.V_far (p := ⟨gb9037, 0, none⟩) (Kd.V_mono HO_9003001.out (fun k_ hk => (⟨hk, hk.1.2.2.2.2.2.2⟩ : _ ∧ k_ ≠ gb9037))) (fun _ hk => hk.2) (.int .i64 t9117)) (fun _ hk => hk.2) (.slice Ao172 t9118.length co172)) (fun _ hk => hk.2) (.slice Ao173 t9121.length co173)) (fun _ hk => ⟨hk.1.1.1, ⟨hk.1.1.2.1, ⟨hk.1.1.2.2.1, ⟨hk.1.2, ⟨hk.1.1.2.2.2.1, ⟨hk.1.1.2.2.2.2.1, ⟨hk.1.1.2.2.2.2.2.1, hk.1.1.2.2.2.2.2.2⟩⟩⟩⟩⟩⟩⟩))⟩
                        have n1_ : Aside0 (Kd.V (Kd.int .i64) 3 (((w170.setCell ⟨gb9037, 0, none⟩ (.int .i64 t9117)).setCell ⟨gb9037, 1, none⟩ (.slice Ao172 t9118.length co172)).setCell ⟨gb9037, 2, none⟩ (.slice Ao173 t9121.length co173)) w.heap.size (fun k_ => ((P0_1_ k_ ∨ P0_2_ k_) ∨ w.heap.size ≤ k_) ∧ some k_ ≠ (.slice Ao166 t9110.length co166 : Value).ownBlock ∧ some k_ ≠ (.slice Ao167 t9113.length co167 : Value).ownBlock ∧ some k_ ≠ (.slice Ao173 t9121.length co173 : Value).ownBlock ∧ k_ ≠ gb9001 ∧ k_ ≠ gb9002 ∧ k_ ≠ gb9028 ∧ k_ ≠ gb9037) (.slice Ao92 x9003002_5.length co92) x9003002_5) := ⟨Kd.V_ext (Kd.V_mono (Kd.V_far (p := ⟨gb9037, 2, none⟩) (Kd.V_far (p := ⟨gb9037, 1, none⟩) (Kd.V_far (p := ⟨gb9037, 0, none⟩) (Kd.V_mono HO_9003002.out (fun k_ hk => (⟨hk, hk.1.2.2.2.2.2.2⟩ : _ ∧ k_ ≠ gb9037))) (fun _ hk => hk.2) (.int .i64 t9117)) (fun _ hk => hk.2) (.slice Ao172 t9118.length co172)) (fun _ hk => hk.2) (.slice Ao173 t9121.length co173)) (fun _ hk => ⟨hk.1.1.1, ⟨hk.1.1.2.1, ⟨hk.1.1.2.2.1, ⟨hk.1.2, ⟨hk.1.1.2.2.2.1, ⟨hk.1.1.2.2.2.2.1, ⟨hk.1.1.2.2.2.2.2.1, hk.1.1.2.2.2.2.2.2⟩⟩⟩⟩⟩⟩⟩))⟩
                        have n2_ : Aside0 (Kd.R (Kd.int .i64) 3 (((w170.setCell ⟨gb9037, 0, none⟩ (.int .i64 t9117)).setCell ⟨gb9037, 1, none⟩ (.slice Ao172 t9118.length co172)).setCell ⟨gb9037, 2, none⟩ (.slice Ao173 t9121.length co173)) w.heap.size (fun k_ => (w.heap.size ≤ k_) ∧ some k_ ≠ (.slice Ao167 t9113.length co167 : Value).ownBlock ∧ some k_ ≠ (.slice Ao173 t9121.length co173 : Value).ownBlock) (.slice Ao166 t9110.length co166) t9110) := ⟨Kd.R_ext (Kd.R_mono (Kd.R_far (p := ⟨gb9037, 2, none⟩) (Kd.R_far (p := ⟨gb9037, 1, none⟩) (Kd.R_far (p := ⟨gb9037, 0, none⟩) (Kd.R_types HO9112.out BK9037.out (by decide)) (fun _ hk => hk.2) (.int .i64 t9117)) (fun _ hk => hk.2) (.slice Ao172 t9118.length co172)) (fun _ hk => hk.2) (.slice Ao173 t9121.length co173)) (fun _ hk => ⟨hk.1.1.1, ⟨hk.1.1.2, hk.1.2⟩⟩))⟩
                        have n3_ : Aside0 (Kd.R (Kd.int .i64) 3 (((w170.setCell ⟨gb9037, 0, none⟩ (.int .i64 t9117)).setCell ⟨gb9037, 1, none⟩ (.slice Ao172 t9118.length co172)).setCell ⟨gb9037, 2, none⟩ (.slice Ao173 t9121.length co173)) w.heap.size (fun k_ => (w.heap.size ≤ k_) ∧ some k_ ≠ (.slice Ao166 t9110.length co166 : Value).ownBlock ∧ some k_ ≠ (.slice Ao173 t9121.length co173 : Value).ownBlock) (.slice Ao167 t9113.length co167) t9113) := ⟨Kd.R_ext (Kd.R_mono (Kd.R_far (p := ⟨gb9037, 2, none⟩) (Kd.R_far (p := ⟨gb9037, 1, none⟩) (Kd.R_far (p := ⟨gb9037, 0, none⟩) (Kd.R_types HO9115.out BK9037.out (by decide)) (fun _ hk => hk.2) (.int .i64 t9117)) (fun _ hk => hk.2) (.slice Ao172 t9118.length co172)) (fun _ hk => hk.2) (.slice Ao173 t9121.length co173)) (fun _ hk => ⟨hk.1.1.1, ⟨hk.1.1.2, hk.1.2⟩⟩))⟩
                        have n4_ : Aside0 (Kd.V (Kd.int .i64) 3 (((w170.setCell ⟨gb9037, 0, none⟩ (.int .i64 t9117)).setCell ⟨gb9037, 1, none⟩ (.slice Ao172 t9118.length co172)).setCell ⟨gb9037, 2, none⟩ (.slice Ao173 t9121.length co173)) w.heap.size (fun k_ => ((P0_1_ k_ ∨ P0_2_ k_) ∨ w.heap.size ≤ k_) ∧ some k_ ≠ (.slice Ao166 t9110.length co166 : Value).ownBlock ∧ some k_ ≠ (.slice Ao167 t9113.length co167 : Value).ownBlock ∧ some k_ ≠ (.slice Ao173 t9121.length co173 : Value).ownBlock ∧ k_ ≠ gb9001 ∧ k_ ≠ gb9002 ∧ k_ ≠ gb9028 ∧ k_ ≠ gb9037) (.slice Ao172 t9118.length co172) t9118) := ⟨Kd.V_ext (Kd.V_mono (Kd.V_far (p := ⟨gb9037, 2, none⟩) (Kd.V_far (p := ⟨gb9037, 1, none⟩) (Kd.V_far (p := ⟨gb9037, 0, none⟩) (Kd.V_mono HO9120.out (fun k_ hk => (⟨hk, hk.2.2.2.2.2.2.2⟩ : _ ∧ k_ ≠ gb9037))) (fun _ hk => hk.2) (.int .i64 t9117)) (fun _ hk => hk.2) (.slice Ao172 t9118.length co172)) (fun _ hk => hk.2) (.slice Ao173 t9121.length co173)) (fun _ hk => ⟨hk.1.1, ⟨hk.1.2.2.1, ⟨hk.1.2.2.2.1, ⟨hk.1.2.1, ⟨hk.1.2.2.2.2.1, ⟨hk.1.2.2.2.2.2.1, ⟨hk.1.2.2.2.2.2.2.1, hk.1.2.2.2.2.2.2.2⟩⟩⟩⟩⟩⟩⟩))⟩
                        have n5_ : Aside0 (Kd.R (Kd.int .i64) 3 (((w170.setCell ⟨gb9037, 0, none⟩ (.int .i64 t9117)).setCell ⟨gb9037, 1, none⟩ (.slice Ao172 t9118.length co172)).setCell ⟨gb9037, 2, none⟩ (.slice Ao173 t9121.length co173)) w.heap.size (fun k_ => (w.heap.size ≤ k_) ∧ some k_ ≠ (.slice Ao166 t9110.length co166 : Value).ownBlock ∧ some k_ ≠ (.slice Ao167 t9113.length co167 : Value).ownBlock) (.slice Ao173 t9121.length co173) t9121) := ⟨Kd.R_ext (Kd.R_mono (Kd.R_far (p := ⟨gb9037, 2, none⟩) (Kd.R_far (p := ⟨gb9037, 1, none⟩) (Kd.R_far (p := ⟨gb9037, 0, none⟩) (Kd.R_types HO9123.out BK9037.out (by decide)) (fun _ hk => hk.2) (.int .i64 t9117)) (fun _ hk => hk.2) (.slice Ao172 t9118.length co172)) (fun _ hk => hk.2) (.slice Ao173 t9121.length co173)) (fun _ hk => ⟨hk.1.1.1.1, ⟨hk.1.1.2, hk.1.2⟩⟩))⟩
                        have n6_ : Aside0 ((((w170.setCell ⟨gb9037, 0, none⟩ (.int .i64 t9117)).setCell ⟨gb9037, 1, none⟩ (.slice Ao172 t9118.length co172)).setCell ⟨gb9037, 2, none⟩ (.slice Ao173 t9121.length co173)).heap[gb9001]? = some (.cells #[.int .i64 a0_0, .slice A0_1 l0_1.length c0_1, .slice A0_2 l0_2.length c0_2] 44 (0, 0))) := ⟨blk_extC BK9001.out⟩
                        have n7_ : Aside0 ((((w170.setCell ⟨gb9037, 0, none⟩ (.int .i64 t9117)).setCell ⟨gb9037, 1, none⟩ (.slice Ao172 t9118.length co172)).setCell ⟨gb9037, 2, none⟩ (.slice Ao173 t9121.length co173)).heap[gb9002]? = some (.cells #[.int .i64 x9003000_5, .slice Ao91 x9003001_5.length co91, .slice Ao92 x9003002_5.length co92] 44 (0, 0))) := ⟨blk_extC BK9002.out⟩
                        have n8_ : Aside0 ((((w170.setCell ⟨gb9037, 0, none⟩ (.int .i64 t9117)).setCell ⟨gb9037, 1, none⟩ (.slice Ao172 t9118.length co172)).setCell ⟨gb9037, 2, none⟩ (.slice Ao173 t9121.length co173)).heap[gb9028]? = some (.cells #[.int .i64 t9109, .slice Ao166 t9110.length co166, .slice Ao167 t9113.length co167] 44 (0, 0))) := ⟨blk_extC BK9028.out⟩
                        have n9_ : Aside0 ((((w170.setCell ⟨gb9037, 0, none⟩ (.int .i64 t9117)).setCell ⟨gb9037, 1, none⟩ (.slice Ao172 t9118.length co172)).setCell ⟨gb9037, 2, none⟩ (.slice Ao173 t9121.length co173)).heap[gb9037]? = some (.cells #[.int .i64 t9117, .slice Ao172 t9118.length co172, .slice Ao173 t9121.length co173] 44 (0, 0))) := ⟨by (with_reducible repeat (first | refine blk_drewN ?_ _ | refine blk_drew ?_ | refine blk_alloc ?_ _)); refine blk_put (cs := #[.int .i64 t9117, .slice Ao172 t9118.length co172, .slice Ao160 t9104.length co160]) ?_ 2 _ rfl; (with_reducible repeat (first | refine blk_drewN ?_ _ | refine blk_drew ?_ | refine blk_alloc ?_ _)); refine blk_put (cs := #[.int .i64 t9117, .slice Ao159 t9101.length co159, .slice Ao160 t9104.length co160]) ?_ 1 _ rfl; (with_reducible repeat (first | refine blk_drewN ?_ _ | refine blk_drew ?_ | refine blk_alloc ?_ _)); refine blk_put (cs := #[.int .i64 t9100, .slice Ao159 t9101.length co159, .slice Ao160 t9104.length co160]) ?_ 0 _ rfl; exact blk_ext BK9037.out⟩
                        have n10_ : Aside0 (Below w.heap.size w (((w170.setCell ⟨gb9037, 0, none⟩ (.int .i64 t9117)).setCell ⟨gb9037, 1, none⟩ (.slice Ao172 t9118.length co172)).setCell ⟨gb9037, 2, none⟩ (.slice Ao173 t9121.length co173))) := ⟨below_extB HB.out⟩
                        (try clear HO_9003001)
                        (try clear HO_9003002)
                        (try clear HO9112)
                        (try clear HO9115)
                        (try clear HO9120)
                        (try clear HO9123)
                        (try clear BK9001)
                        (try clear BK9002)
                        (try clear BK9028)
                        (try clear BK9037)
                        (try clear HB)
                        generalize (((w170.setCell ⟨gb9037, 0, none⟩ (.int .i64 t9117)).setCell ⟨gb9037, 1, none⟩ (.slice Ao172 t9118.length co172)).setCell ⟨gb9037, 2, none⟩ (.slice Ao173 t9121.length co173)) = w174 at n0_ n1_ n2_ n3_ n4_ n5_ n6_ n7_ n8_ n9_ n10_ ⊢
                        have HO_9003001 := n0_
                        have HO_9003002 := n1_
                        have HO9112 := n2_
                        have HO9115 := n3_
                        have HO9120 := n4_
                        have HO9123 := n5_
                        have BK9001 := n6_
                        have BK9002 := n7_
                        have BK9028 := n8_
                        have BK9037 := n9_
                        have HB := n10_
                        clear n0_ n1_ n2_ n3_ n4_ n5_ n6_ n7_ n8_ n9_ n10_
                        have n0_ := Aside0.mk (Kd.V_drew HO_9003001.out)
                        have n1_ := Aside0.mk (Kd.V_drew HO_9003002.out)
                        have n2_ := Aside0.mk (Kd.R_drew HO9112.out)
                        have n3_ := Aside0.mk (Kd.R_drew HO9115.out)
                        have n4_ := Aside0.mk (Kd.V_drew HO9120.out)
                        have n5_ := Aside0.mk (Kd.R_drew HO9123.out)
                        have n6_ := Aside0.mk (blk_drew BK9001.out)
                        have n7_ := Aside0.mk (blk_drew BK9002.out)
                        have n8_ := Aside0.mk (blk_drew BK9028.out)
                        have n9_ := Aside0.mk (blk_drew BK9037.out)
                        have n10_ := Aside0.mk (below_drew1 HB.out)
                        clear HO_9003001
                        clear HO_9003002
                        clear HO9112
                        clear HO9115
                        clear HO9120
                        clear HO9123
                        clear BK9001
                        clear BK9002
                        clear BK9028
                        clear BK9037
                        clear HB
                        have HO_9003001 := n0_
                        have HO_9003002 := n1_
                        have HO9112 := n2_
                        have HO9115 := n3_
                        have HO9120 := n4_
                        have HO9123 := n5_
                        have BK9001 := n6_
                        have BK9002 := n7_
                        have BK9028 := n8_
                        have BK9037 := n9_
                        have HB := n10_
                        clear n0_ n1_ n2_ n3_ n4_ n5_ n6_ n7_ n8_ n9_ n10_
                        refine start_ (n := 21) (S := fun w' => w'.cell? ⟨gb9028, 0, none⟩ = some (.int .i64 t9109) ∧ w'.cell? ⟨gb9028, 1, none⟩ = some (.slice Ao166 t9110.length co166) ∧ w'.cell? ⟨gb9028, 2, none⟩ = some (.slice Ao167 t9113.length co167) ∧ w'.cell? ⟨gb9037, 0, none⟩ = some (.int .i64 t9117) ∧ w'.cell? ⟨gb9037, 1, none⟩ = some (.slice Ao172 t9118.length co172) ∧ w'.cell? ⟨gb9037, 2, none⟩ = some (.slice Ao173 t9121.length co173) ∧ w'.cell? ⟨gb9002, 0, none⟩ = some (.int .i64 x9003000_5) ∧ w'.cell? ⟨gb9002, 1, none⟩ = some (.slice Ao91 x9003001_5.length co91) ∧ w'.cell? ⟨gb9002, 2, none⟩ = some (.slice Ao92 x9003002_5.length co92)) (ds := []) #[false, false, false, false, false, false, false, false, false, false, false, false, false, false, false, false, false, false, false, false, false] (by kernel_rfl) rfl rfl ⟨(blk_cell BK9028.out 0).trans rfl, (blk_cell BK9028.out 1).trans rfl, (blk_cell BK9028.out 2).trans rfl, (blk_cell BK9037.out 0).trans rfl, (blk_cell BK9037.out 1).trans rfl, (blk_cell BK9037.out 2).trans rfl, (blk_cell BK9002.out 0).trans rfl, (blk_cell BK9002.out 1).trans rfl, (blk_cell BK9002.out 2).trans rfl⟩ (fun hHeld => ?_); refine with_tabW customslaw38_ChannelSteps.tab35 customslaw38_ChannelSteps.bits35 (fun HT_ HW_ => ?_)
                        generalize w174.drew = w175 at HO_9003001 HO_9003002 HO9112 HO9115 HO9120 HO9123 BK9001 BK9002 BK9028 BK9037 HB hHeld ⊢
                        refine pure_ (i := 0) (N := some 204) (v := ?_) (a' := ?_) #[true, false, false, false, false, false, false, false, false, false, false, false, false, false, false, false, false, false, false, false, false] rfl rfl (any_of HT_.out (by kernel_rfl)) (fun _ _ _ h => h) (Or.inl ⟨by rfl, ?_⟩) ?_ ?_
                        rotate_left
                        · intro w'
                          go_simp
                          with_reducible rfl
                        rotate_left
                        · simp only [Act.put, List.setIfInBounds_toArray, List.set_cons_zero, List.set_cons_succ, i64_w, i32_w]
                          rfl
                        refine pure_ (i := 1) (N := some 205) (v := ?_) (a' := ?_) #[true, true, false, false, false, false, false, false, false, false, false, false, false, false, false, false, false, false, false, false, false] rfl rfl (any_of HT_.out (by kernel_rfl)) (fun _ _ _ h => h) (Or.inl ⟨by rfl, ?_⟩) ?_ ?_
                        rotate_left
                        · intro w'
                          go_simp
                          with_reducible rfl
                        rotate_left
                        · simp only [Act.put, List.setIfInBounds_toArray, List.set_cons_zero, List.set_cons_succ, i64_w, i32_w]
                          rfl
                        refine pure_ (i := 2) (N := some 206) (v := ?_) (a' := ?_) #[true, true, true, false, false, false, false, false, false, false, false, false, false, false, false, false, false, false, false, false, false] rfl rfl (any_of HT_.out (by kernel_rfl)) (fun _ _ _ h => h) (Or.inl ⟨by rfl, ?_⟩) ?_ ?_
                        rotate_left
                        · intro w'
                          go_simp
                          with_reducible rfl
                        rotate_left
                        · simp only [Act.put, List.setIfInBounds_toArray, List.set_cons_zero, List.set_cons_succ, i64_w, i32_w]
                          rfl
                        refine pure_ (i := 3) (N := some 207) (v := ?_) (a' := ?_) #[true, true, true, true, false, false, false, false, false, false, false, false, false, false, false, false, false, false, false, false, false] rfl rfl (any_of HT_.out (by kernel_rfl)) (fun _ _ _ h => h) (Or.inl ⟨by rfl, ?_⟩) ?_ ?_
                        rotate_left
                        · intro w'
                          go_simp
                          with_reducible rfl
                        rotate_left
                        · simp only [Act.put, List.setIfInBounds_toArray, List.set_cons_zero, List.set_cons_succ, i64_w, i32_w]
                          rfl
                        refine take_ (i := 4) (N := some 208) (v := ?_) (a' := ?_) #[true, true, true, true, true, false, false, false, false, false, false, false, false, false, false, false, false, false, false, false, false] rfl rfl (take_ofW HT_.out HW_.out (by kernel_rfl)) (fun _ _ _ h => h) (Or.inl ⟨by rfl, ?_⟩) hHeld ?_ ?_
                        rotate_left
                        · rintro w' ⟨s0, s1, s2, s3, s4, s5, s6, s7, s8⟩
                          go_simp
                          with_reducible rfl
                        rotate_left
                        · simp only [Act.put, List.setIfInBounds_toArray, List.set_cons_zero, List.set_cons_succ, i64_w, i32_w]
                          rfl
                        refine take_ (i := 5) (N := some 209) (v := ?_) (a' := ?_) #[true, true, true, true, true, true, false, false, false, false, false, false, false, false, false, false, false, false, false, false, false] rfl rfl (take_ofW HT_.out HW_.out (by kernel_rfl)) (fun _ _ _ h => h) (Or.inl ⟨by rfl, ?_⟩) hHeld ?_ ?_
                        rotate_left
                        · rintro w' ⟨s0, s1, s2, s3, s4, s5, s6, s7, s8⟩
                          go_simp
                          with_reducible rfl
                        rotate_left
                        · simp only [Act.put, List.setIfInBounds_toArray, List.set_cons_zero, List.set_cons_succ, i64_w, i32_w]
                          rfl
                        refine one_ (i := 6) (N := some 210) #[true, true, true, true, true, true, true, false, false, false, false, false, false, false, false, false, false, false, false, false, false] rfl rfl (one_of HT_.out (by kernel_rfl)) (by decide) (fun K hK => ?_)
                        refine goes_ Try.func35 (by kernel_rfl) rfl #[.agg #[.int .i64 t9109, .slice Ao166 t9110.length co166, .slice Ao167 t9113.length co167], .agg #[.int .i64 t9117, .slice Ao172 t9118.length co172, .slice Ao173 t9121.length co173]] (by rfl) rfl rfl (by (try simp only [List.map_toArray, List.map_cons, List.map_nil]); first | done | rfl | (simp only [List.length_drop, List.length_take]; rfl)) ?_
                        with_reducible refine (customsref33_SameLine.calls kj5 t9109 _ _ t9110 _ _ t9113 t9117 _ _ t9118 _ _ t9121 true _ ?side1 ?side2 ?side3 ?side4 ?side5 ?side6 ?side7 ?side8 A83.out).mono ?_
                        (case side1 => exact Kd.C_ext (Kd.R_reads' HO9112.out).2.2)
                        (case side2 => exact (Kd.R_reads' HO9112.out).2.1)
                        (case side3 => exact Kd.C_ext (Kd.R_reads' HO9115.out).2.2)
                        (case side4 => exact (Kd.R_reads' HO9115.out).2.1)
                        (case side5 => exact Kd.C_ext (Kd.V_reads' HO9120.out).2.2)
                        (case side6 => exact (Kd.V_reads' HO9120.out).2.1)
                        (case side7 => exact Kd.C_ext (Kd.R_reads' HO9123.out).2.2)
                        (case side8 => exact (Kd.R_reads' HO9123.out).2.1)
                        rintro e w176 ⟨rfl, hb⟩
                        refine ⟨_, rfl, ?_⟩
                        replace HO_9003001 := mvV HO_9003001 hb
                        replace HO_9003002 := mvV HO_9003002 hb
                        replace HO9112 := mvR HO9112 hb
                        replace HO9115 := mvR HO9115 hb
                        replace HO9120 := mvV HO9120 hb
                        replace HO9123 := mvR HO9123 hb
                        replace BK9001 := mvB BK9001 hb
                        replace BK9002 := mvB BK9002 hb
                        replace BK9028 := mvB BK9028 hb
                        replace BK9037 := mvB BK9037 hb
                        replace HB := mvH HB hb
                        (try clear hb)
                        (try clear hb2)
                        (try clear hk)
                        (try clear hi)
                        refine hK.out _ _ ⟨(blk_cell BK9028.out 0).trans rfl, (blk_cell BK9028.out 1).trans rfl, (blk_cell BK9028.out 2).trans rfl, (blk_cell BK9037.out 0).trans rfl, (blk_cell BK9037.out 1).trans rfl, (blk_cell BK9037.out 2).trans rfl, (blk_cell BK9002.out 0).trans rfl, (blk_cell BK9002.out 1).trans rfl, (blk_cell BK9002.out 2).trans rfl⟩ (fun hHeld => ?_)
                        clear hK K
                        refine norm_ (a' := ?_) ?_ ?_
                        rotate_left
                        · show Act.put _ (some 210) _ = _
                          simp only [Act.put, List.setIfInBounds_toArray, List.set_cons_zero, List.set_cons_succ, i64_w, i32_w]
                          rfl
                        refine pure_ (i := 7) (N := some 211) (v := ?_) (a' := ?_) #[true, true, true, true, true, true, true, true, false, false, false, false, false, false, false, false, false, false, false, false, false] rfl rfl (any_of HT_.out (by kernel_rfl)) (fun _ _ _ h => h) (Or.inl ⟨by rfl, ?_⟩) ?_ ?_
                        rotate_left
                        · intro w'
                          go_simp
                          with_reducible rfl
                        rotate_left
                        · simp only [Act.put, List.setIfInBounds_toArray, List.set_cons_zero, List.set_cons_succ, i64_w, i32_w]
                          rfl
                        refine pure_ (i := 8) (N := some 212) (v := ?_) (a' := ?_) #[true, true, true, true, true, true, true, true, true, false, false, false, false, false, false, false, false, false, false, false, false] rfl rfl (any_of HT_.out (by kernel_rfl)) (fun _ _ _ h => h) (Or.inl ⟨by rfl, ?_⟩) ?_ ?_
                        rotate_left
                        · intro w'
                          go_simp
                          with_reducible rfl
                        rotate_left
                        · simp only [Act.put, List.setIfInBounds_toArray, List.set_cons_zero, List.set_cons_succ, i64_w, i32_w]
                          rfl
                        refine pure_ (i := 10) (N := some 214) (v := ?_) (a' := ?_) #[true, true, true, true, true, true, true, true, true, false, true, false, false, false, false, false, false, false, false, false, false] rfl rfl (any_of HT_.out (by kernel_rfl)) (fun _ _ _ h => h) (Or.inl ⟨by rfl, ?_⟩) ?_ ?_
                        rotate_left
                        · intro w'
                          go_simp
                          with_reducible rfl
                        rotate_left
                        · simp only [Act.put, List.setIfInBounds_toArray, List.set_cons_zero, List.set_cons_succ, i64_w, i32_w]
                          rfl
                        refine pure_ (i := 13) (N := some 217) (v := ?_) (a' := ?_) #[true, true, true, true, true, true, true, true, true, false, true, false, false, true, false, false, false, false, false, false, false] rfl rfl (any_of HT_.out (by kernel_rfl)) (fun _ _ _ h => h) (Or.inl ⟨by rfl, ?_⟩) ?_ ?_
                        rotate_left
                        · intro w'
                          go_simp
                          with_reducible rfl
                        rotate_left
                        · simp only [Act.put, List.setIfInBounds_toArray, List.set_cons_zero, List.set_cons_succ, i64_w, i32_w]
                          rfl
                        refine take_ (i := 9) (N := some 213) (v := ?_) (a' := ?_) #[true, true, true, true, true, true, true, true, true, true, true, false, false, true, false, false, false, false, false, false, false] rfl rfl (take_ofW HT_.out HW_.out (by kernel_rfl)) (fun _ _ _ h => h) (Or.inl ⟨by rfl, ?_⟩) hHeld ?_ ?_
                        rotate_left
                        · rintro w' ⟨s0, s1, s2, s3, s4, s5, s6, s7, s8⟩
                          go_simp
                          with_reducible rfl
                        rotate_left
                        · simp only [Act.put, List.setIfInBounds_toArray, List.set_cons_zero, List.set_cons_succ, i64_w, i32_w]
                          rfl
                        refine take_ (i := 12) (N := some 216) (v := ?_) (a' := ?_) #[true, true, true, true, true, true, true, true, true, true, true, false, true, true, false, false, false, false, false, false, false] rfl rfl (take_ofW HT_.out HW_.out (by kernel_rfl)) (fun _ _ _ h => h) (Or.inl ⟨by rfl, ?_⟩) hHeld ?_ ?_
                        rotate_left
                        · rintro w' ⟨s0, s1, s2, s3, s4, s5, s6, s7, s8⟩
                          go_simp
                          with_reducible rfl
                        rotate_left
                        · simp only [Act.put, List.setIfInBounds_toArray, List.set_cons_zero, List.set_cons_succ, i64_w, i32_w]
                          rfl
                        refine one_ (i := 11) (N := some 215) #[true, true, true, true, true, true, true, true, true, true, true, true, true, true, false, false, false, false, false, false, false] rfl rfl (one_of HT_.out (by kernel_rfl)) (by decide) (fun K hK => ?_)
                        refine goes_ Try.func49 (by kernel_rfl) rfl #[.agg #[.int .i64 x9003000_5, .slice Ao91 x9003001_5.length co91, .slice Ao92 x9003002_5.length co92], .int .i64 x1_5] (by rfl) rfl rfl (by (try simp only [List.map_toArray, List.map_cons, List.map_nil]); first | done | rfl | (simp only [List.length_drop, List.length_take]; rfl)) ?_
                        with_reducible refine (channel_Idle.calls x9003000_5 _ _ x9003001_5 _ _ x9003002_5 x1_5 t9126 _ ?side1 ?side2 ?side3 ?side4 A85.out).mono ?_
                        (case side1 => exact Kd.C_ext (Kd.V_reads' HO_9003001.out).2.2)
                        (case side2 => exact (Kd.V_reads' HO_9003001.out).2.1)
                        (case side3 => exact Kd.C_ext (Kd.V_reads' HO_9003002.out).2.2)
                        (case side4 => exact (Kd.V_reads' HO_9003002.out).2.1)
                        rintro e w177 ⟨rfl, hb⟩
                        refine ⟨_, rfl, ?_⟩
                        replace HO_9003001 := mvV HO_9003001 hb
                        replace HO_9003002 := mvV HO_9003002 hb
                        replace HO9112 := mvR HO9112 hb
                        replace HO9115 := mvR HO9115 hb
                        replace HO9120 := mvV HO9120 hb
                        replace HO9123 := mvR HO9123 hb
                        replace BK9001 := mvB BK9001 hb
                        replace BK9002 := mvB BK9002 hb
                        replace BK9028 := mvB BK9028 hb
                        replace BK9037 := mvB BK9037 hb
                        replace HB := mvH HB hb
                        (try clear hb)
                        (try clear hb2)
                        (try clear hk)
                        (try clear hi)
                        refine hK.out _ _ ⟨(blk_cell BK9028.out 0).trans rfl, (blk_cell BK9028.out 1).trans rfl, (blk_cell BK9028.out 2).trans rfl, (blk_cell BK9037.out 0).trans rfl, (blk_cell BK9037.out 1).trans rfl, (blk_cell BK9037.out 2).trans rfl, (blk_cell BK9002.out 0).trans rfl, (blk_cell BK9002.out 1).trans rfl, (blk_cell BK9002.out 2).trans rfl⟩ (fun hHeld => ?_)
                        clear hK K
                        refine norm_ (a' := ?_) ?_ ?_
                        rotate_left
                        · show Act.put _ (some 215) _ = _
                          simp only [Act.put, List.setIfInBounds_toArray, List.set_cons_zero, List.set_cons_succ, i64_w, i32_w]
                          rfl
                        refine one_ (i := 14) (N := some 218) #[true, true, true, true, true, true, true, true, true, true, true, true, true, true, true, false, false, false, false, false, false] rfl rfl (one_of HT_.out (by kernel_rfl)) (by decide) (fun K hK => ?_)
                        refine goes_ Try.func50 (by kernel_rfl) rfl #[.agg #[.int .i64 x9003000_5, .slice Ao91 x9003001_5.length co91, .slice Ao92 x9003002_5.length co92], .int .i64 x1_5] (by rfl) rfl rfl (by (try simp only [List.map_toArray, List.map_cons, List.map_nil]); first | done | rfl | (simp only [List.length_drop, List.length_take]; rfl)) ?_
                        with_reducible refine (customsref33_Idle.calls x9003000_5 _ _ x9003001_5 _ _ x9003002_5 x1_5 t9127 _ ?side1 ?side2 ?side3 ?side4 A86.out).mono ?_
                        (case side1 => exact Kd.C_ext (Kd.V_reads' HO_9003001.out).2.2)
                        (case side2 => exact (Kd.V_reads' HO_9003001.out).2.1)
                        (case side3 => exact Kd.C_ext (Kd.V_reads' HO_9003002.out).2.2)
                        (case side4 => exact (Kd.V_reads' HO_9003002.out).2.1)
                        rintro e w178 ⟨rfl, hb⟩
                        refine ⟨_, rfl, ?_⟩
                        replace HO_9003001 := mvV HO_9003001 hb
                        replace HO_9003002 := mvV HO_9003002 hb
                        replace HO9112 := mvR HO9112 hb
                        replace HO9115 := mvR HO9115 hb
                        replace HO9120 := mvV HO9120 hb
                        replace HO9123 := mvR HO9123 hb
                        replace BK9001 := mvB BK9001 hb
                        replace BK9002 := mvB BK9002 hb
                        replace BK9028 := mvB BK9028 hb
                        replace BK9037 := mvB BK9037 hb
                        replace HB := mvH HB hb
                        (try clear hb)
                        (try clear hb2)
                        (try clear hk)
                        (try clear hi)
                        refine hK.out _ _ ⟨(blk_cell BK9028.out 0).trans rfl, (blk_cell BK9028.out 1).trans rfl, (blk_cell BK9028.out 2).trans rfl, (blk_cell BK9037.out 0).trans rfl, (blk_cell BK9037.out 1).trans rfl, (blk_cell BK9037.out 2).trans rfl, (blk_cell BK9002.out 0).trans rfl, (blk_cell BK9002.out 1).trans rfl, (blk_cell BK9002.out 2).trans rfl⟩ (fun hHeld => ?_)
                        clear hK K
                        refine norm_ (a' := ?_) ?_ ?_
                        rotate_left
                        · show Act.put _ (some 218) _ = _
                          simp only [Act.put, List.setIfInBounds_toArray, List.set_cons_zero, List.set_cons_succ, i64_w, i32_w]
                          rfl
                        refine pure_ (i := 15) (N := some 219) (v := ?_) (a' := ?_) #[true, true, true, true, true, true, true, true, true, true, true, true, true, true, true, true, false, false, false, false, false] rfl rfl (any_of HT_.out (by kernel_rfl)) (fun _ _ _ h => h) (Or.inl ⟨by rfl, ?_⟩) ?_ ?_
                        rotate_left
                        · intro w'
                          go_simp
                          with_reducible rfl
                        rotate_left
                        · simp only [Act.put, List.setIfInBounds_toArray, List.set_cons_zero, List.set_cons_succ, i64_w, i32_w]
                          rfl
                        refine pure_ (i := 16) (N := some 220) (v := ?_) (a' := ?_) #[true, true, true, true, true, true, true, true, true, true, true, true, true, true, true, true, true, false, false, false, false] rfl rfl (any_of HT_.out (by kernel_rfl)) (fun _ _ _ h => h) (Or.inl ⟨by rfl, ?_⟩) ?_ ?_
                        rotate_left
                        · intro w'
                          go_simp
                          with_reducible rfl
                        rotate_left
                        · simp only [Act.put, List.setIfInBounds_toArray, List.set_cons_zero, List.set_cons_succ, i64_w, i32_w]
                          rfl
                        refine pure_ (i := 17) (N := some 221) (v := ?_) (a' := ?_) #[true, true, true, true, true, true, true, true, true, true, true, true, true, true, true, true, true, true, false, false, false] rfl rfl (any_of HT_.out (by kernel_rfl)) (fun _ _ _ h => h) (Or.inl ⟨by rfl, ?_⟩) ?_ ?_
                        rotate_left
                        · intro w'
                          go_simp
                          with_reducible rfl
                        rotate_left
                        · simp only [Act.put, List.setIfInBounds_toArray, List.set_cons_zero, List.set_cons_succ, i64_w, i32_w]
                          rfl
                        refine one_ (i := 18) (N := some 222) #[true, true, true, true, true, true, true, true, true, true, true, true, true, true, true, true, true, true, true, false, false] rfl rfl (one_of HT_.out (by kernel_rfl)) (by decide) (fun K hK => ?_)
                        refine goes_ Try.func32 (by kernel_rfl) rfl #[] (by rfl) rfl rfl (by (try simp only [List.map_toArray, List.map_cons, List.map_nil]); first | done | rfl | (simp only [List.length_drop, List.length_take]; rfl)) ?_
                        with_reducible refine (customslaw38_awake.calls kj5  t9128 _ A88.out).mono ?_
                        rintro e w179 ⟨rfl, hb⟩
                        refine ⟨_, rfl, ?_⟩
                        replace HO_9003001 := mvV HO_9003001 hb
                        replace HO_9003002 := mvV HO_9003002 hb
                        replace HO9112 := mvR HO9112 hb
                        replace HO9115 := mvR HO9115 hb
                        replace HO9120 := mvV HO9120 hb
                        replace HO9123 := mvR HO9123 hb
                        replace BK9001 := mvB BK9001 hb
                        replace BK9002 := mvB BK9002 hb
                        replace BK9028 := mvB BK9028 hb
                        replace BK9037 := mvB BK9037 hb
                        replace HB := mvH HB hb
                        (try clear hb)
                        (try clear hb2)
                        (try clear hk)
                        (try clear hi)
                        refine hK.out _ _ ⟨(blk_cell BK9028.out 0).trans rfl, (blk_cell BK9028.out 1).trans rfl, (blk_cell BK9028.out 2).trans rfl, (blk_cell BK9037.out 0).trans rfl, (blk_cell BK9037.out 1).trans rfl, (blk_cell BK9037.out 2).trans rfl, (blk_cell BK9002.out 0).trans rfl, (blk_cell BK9002.out 1).trans rfl, (blk_cell BK9002.out 2).trans rfl⟩ (fun hHeld => ?_)
                        clear hK K
                        refine norm_ (a' := ?_) ?_ ?_
                        rotate_left
                        · show Act.put _ (some 222) _ = _
                          simp only [Act.put, List.setIfInBounds_toArray, List.set_cons_zero, List.set_cons_succ, i64_w, i32_w]
                          rfl
                        refine pure_ (i := 19) (N := some 223) (v := ?_) (a' := ?_) #[true, true, true, true, true, true, true, true, true, true, true, true, true, true, true, true, true, true, true, true, false] rfl rfl (any_of HT_.out (by kernel_rfl)) (fun _ _ _ h => h) (Or.inl ⟨by rfl, ?_⟩) ?_ ?_
                        rotate_left
                        · intro w'
                          go_simp
                          with_reducible rfl
                        rotate_left
                        · simp only [Act.put, List.setIfInBounds_toArray, List.set_cons_zero, List.set_cons_succ, i64_w, i32_w]
                          rfl
                        refine pure_ (i := 20) (N := some 10) (v := ?_) (a' := ?_) #[true, true, true, true, true, true, true, true, true, true, true, true, true, true, true, true, true, true, true, true, true] rfl rfl (any_of HT_.out (by kernel_rfl)) (fun _ _ _ h => h) (Or.inl ⟨by rfl, ?_⟩) ?_ ?_
                        rotate_left
                        · intro w'
                          go_simp
                          with_reducible rfl
                        rotate_left
                        · simp only [Act.put, List.setIfInBounds_toArray, List.set_cons_zero, List.set_cons_succ, i64_w, i32_w]
                          rfl
                        refine done_ (done_of HT_.out (by kernel_rfl)) ?_
                        try go_wp2
                        go_ret
                        exact ⟨by first | rfl | (simp [errW_none, errW_some] <;> rfl) | (simp [*, errW_none, errW_some] <;> rfl), below_extB HB.out⟩
                      · rw [if_neg c87] at H
                        have c87b0 : (t9126 == t9127) = false := by simpa using c87
                        (try (have c87b1 : decide (t9126 = t9127) = false := by simpa using c87))
                        (try (have c87b2 : (t9126 == t9127) = false := by simpa using c87))
                        (try (have c87b3 : ¬ (t9126 = t9127) := by simpa using c87))
                        clear c87
                        exact absurd H (by simp)
                    · replace c84 := Bool.eq_false_iff.mpr c84
                      subst c84
                      have H1 : (none) = some r := by rw [if_neg (show ¬ (false = true) by decide)] at H; exact H
                      clear H
                      have H := H1
                      clear H1
                      exact absurd H (by simp)
                  · rw [if_neg c82] at H
                    have c82b0 : (t9116 == t9124) = false := beq_eq_false_iff_ne.mpr c82
                    have c82b1 : (t9116 != t9124) = true := bne_iff_ne.mpr c82
                    exact absurd H (by simp)
                · replace c79 := Bool.eq_false_iff.mpr c79
                  subst c79
                  have H1 : (none) = some r := by rw [if_neg (show ¬ (false = true) by decide)] at H; exact H
                  clear H
                  have H := H1
                  clear H1
                  exact absurd H (by simp)
              · replace c74 := Bool.eq_false_iff.mpr c74
                subst c74
                have H1 : (none) = some r := by rw [if_neg (show ¬ (false = true) by decide)] at H; exact H
                clear H
                have H := H1
                clear H1
                exact absurd H (by simp)
            · replace c69 := Bool.eq_false_iff.mpr c69
              subst c69
              have H1 : (none) = some r := by rw [if_neg (show ¬ (false = true) by decide)] at H; exact H
              clear H
              have H := H1
              clear H1
              exact absurd H (by simp)
          · replace c64 := Bool.eq_false_iff.mpr c64
            subst c64
            have H1 : (none) = some r := by rw [if_neg (show ¬ (false = true) by decide)] at H; exact H
            clear H
            have H := H1
            clear H1
            exact absurd H (by simp)
        · replace c58 := Bool.eq_false_iff.mpr c58
          subst c58
          have H1 : (none) = some r := by rw [if_neg (show ¬ (false = true) by decide)] at H; exact H
          clear H
          have H := H1
          clear H1
          exact absurd H (by simp)
      · rw [if_neg c56] at H
        exact absurd H (by simp)

end Go.Proofs.Ytfljnggpnndmkaa.Z
