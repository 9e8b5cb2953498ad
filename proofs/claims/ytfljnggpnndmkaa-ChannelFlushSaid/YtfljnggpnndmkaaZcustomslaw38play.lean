/- Written by a program of this session: each Go function as a plain Lean function, and that the machine's call does what it says. Conditions: none but those each theorem states. -/
import Derived.Test.YtfljnggpnndmkaaZ0
import Derived.Test.YtfljnggpnndmkaaZchannelTransmit
import Derived.Test.YtfljnggpnndmkaaZchannelDeliver
import Derived.Test.YtfljnggpnndmkaaZchannelConfirm
import Derived.Test.YtfljnggpnndmkaaZchannelLose
import Derived.Test.YtfljnggpnndmkaaZchannelRepeat
import Derived.Test.YtfljnggpnndmkaaZchannelForget
import Derived.Test.YtfljnggpnndmkaaZcustomsmadeCut
import Derived.Test.YtfljnggpnndmkaaZcustomsmadeSourceLeft
import Derived.Test.YtfljnggpnndmkaaZcustomsmadeSourceNext
namespace Go.Proofs.Ytfljnggpnndmkaa.Z
open Go.RowKit Go.Proofs.YtfljnggpnndmkaaW.PrintWords Go.Proofs.YtfljnggpnndmkaaW.PrintLast Go.Proofs.YtfljnggpnndmkaaW.PrintMore
attribute [local go_sem] max2_int min2_int max_two min_two max_three min_three max_four min_four   -- for this text's walks alone
set_option linter.unusedVariables false
set_option linter.unusedSimpArgs false

/-! ### customslaw38_play: function 36 -/
mutual
def customslaw38_play.l0 : Nat → Int → Int → Int → List Int → List Int → List Int → Int → Option (Int × List Int × List Int × Int × Int × Bool)
  | 0, _, _, _, _, _, _, _ => none
  | k + 1, x7, x8, x36003000, x36003001, x36003002, x36008000, x36008001 => (customsmade_Source_Left.f x36008000 x36008001).bind fun bt36008 => (if bt36008.1 = true then ((customsmade_Source_Next.f x36008000 bt36008.2 8).bind fun bt36011 => (if bt36011.1 = 0 then (customslaw38_play.j3 k (wrap64 (x7 + 1)) x8 0 x36003000 x36003001 x36003002 x36008000 bt36011.2 x36003000 x36003001 x36003002) else (if bt36011.1 = 1 then (customslaw38_play.j1 k x7 x8 0 bt36011.1 (bt36011.1 == 1) x36003000 x36003001 x36003002 x36008000 bt36011.2 x36003000 x36003001 x36003002) else (customslaw38_play.j1 k x7 x8 0 bt36011.1 (bt36011.1 == 2) x36003000 x36003001 x36003002 x36008000 bt36011.2 x36003000 x36003001 x36003002)))) else (some (x36003000, x36003001, x36003002, x7, x8, true)))
def customslaw38_play.j3 : Nat → Int → Int → Int → Int → List Int → List Int → List Int → Int → Int → List Int → List Int → Option (Int × List Int × List Int × Int × Int × Bool)
  | 0, _, _, _, _, _, _, _, _, _, _, _ => none
  | k + 1, x7, x8, x12, x36003000, x36003001, x36003002, x36008000, x36008001, x36011000, x36011001, x36011002 => if x12 = 0 then (if x36011000 > x8 then (some (x36011000, x36011001, x36011002, x7, x8, false)) else (if x8 > x7 then (some (x36011000, x36011001, x36011002, x7, x8, false)) else (customslaw38_play.l0 k x7 x8 x36011000 x36011001 x36011002 x36008000 x36008001))) else (if x36003000 > x8 then (some (x36003000, x36003001, x36003002, x7, x8, false)) else (if x8 > x7 then (some (x36003000, x36003001, x36003002, x7, x8, false)) else (customslaw38_play.l0 k x7 x8 x36003000 x36003001 x36003002 x36008000 x36008001)))
def customslaw38_play.j1 : Nat → Int → Int → Int → Int → Bool → Int → List Int → List Int → List Int → Int → Int → List Int → List Int → Option (Int × List Int × List Int × Int × Int × Bool)
  | 0, _, _, _, _, _, _, _, _, _, _, _, _, _ => none
  | k + 1, x7, x8, x12, x21, x43, x36003000, x36003001, x36003002, x36008000, x36008001, x36011000, x36011001, x36011002 => if x43 = true then (if (x36003001.length : Int) < 100 then ((channel_Transmit.f k x36003000 x36003001 x36003002 x7).bind fun bt36013 => (customslaw38_play.j3 k x7 x8 bt36013.2.2.2 x36003000 x36003001 x36003002 x36008000 x36008001 bt36013.1 bt36013.2.1 bt36013.2.2.1)) else (customslaw38_play.j3 k x7 x8 x12 x36003000 x36003001 x36003002 x36008000 x36008001 x36011000 x36011001 x36011002)) else (if x21 = 3 then (customslaw38_play.j2 k x7 x8 x21 (x21 == 3) x36003000 x36003001 x36003002 x36008000 x36008001) else (customslaw38_play.j2 k x7 x8 x21 (x21 == 4) x36003000 x36003001 x36003002 x36008000 x36008001))
def customslaw38_play.j2 : Nat → Int → Int → Int → Bool → Int → List Int → List Int → List Int → Int → Option (Int × List Int × List Int × Int × Int × Bool)
  | 0, _, _, _, _, _, _, _, _, _ => none
  | k + 1, x7, x8, x21, x56, x36003000, x36003001, x36003002, x36008000, x36008001 => if x56 = true then ((customsmade_Source_Next.f x36008000 x36008001 20).bind fun bt36021 => ((channel_Deliver.f k x36003000 x36003001 x36003002 bt36021.1 x8).bind fun bt36023 => (if bt36023.2.2.2.2 = 0 then (if bt36023.2.2.2.1 = (wrap64 (x8 + 1)) then (customslaw38_play.j3 k x7 bt36023.2.2.2.1 bt36023.2.2.2.2 x36003000 x36003001 x36003002 x36008000 bt36021.2 bt36023.1 bt36023.2.1 bt36023.2.2.1) else (customslaw38_play.j3 k x7 x8 bt36023.2.2.2.2 x36003000 x36003001 x36003002 x36008000 bt36021.2 bt36023.1 bt36023.2.1 bt36023.2.2.1)) else (customslaw38_play.j3 k x7 x8 bt36023.2.2.2.2 x36003000 x36003001 x36003002 x36008000 bt36021.2 bt36023.1 bt36023.2.1 bt36023.2.2.1)))) else (if x21 = 5 then ((customsmade_Source_Next.f x36008000 x36008001 20).bind fun bt36032 => ((channel_Lose.f x36003000 x36003001 x36003002 bt36032.1).bind fun bt36034 => (customslaw38_play.j3 k x7 x8 bt36034.2.2.2 x36003000 x36003001 x36003002 x36008000 bt36032.2 bt36034.1 bt36034.2.1 bt36034.2.2.1))) else (if x21 = 6 then ((customsmade_Source_Next.f x36008000 x36008001 20).bind fun bt36042 => ((channel_Repeat.f x36003000 x36003001 x36003002 bt36042.1).bind fun bt36044 => (customslaw38_play.j3 k x7 x8 bt36044.2.2.2 x36003000 x36003001 x36003002 x36008000 bt36042.2 bt36044.1 bt36044.2.1 bt36044.2.2.1))) else ((customsmade_Source_Next.f x36008000 x36008001 3).bind fun bt36052 => (if bt36052.1 = 0 then ((customsmade_Source_Next.f x36008000 bt36052.2 20).bind fun bt36054 => ((channel_Forget.f x36003000 x36003001 x36003002 bt36054.1).bind fun bt36056 => (customslaw38_play.j3 k x7 x8 bt36056.2.2.2 x36003000 x36003001 x36003002 x36008000 bt36054.2 bt36056.1 bt36056.2.1 bt36056.2.2.1))) else ((customsmade_Source_Next.f x36008000 bt36052.2 20).bind fun bt36064 => ((channel_Confirm.f x36003000 x36003001 x36003002 bt36064.1).bind fun bt36066 => (customslaw38_play.j3 k x7 x8 bt36066.2.2.2 x36003000 x36003001 x36003002 x36008000 bt36064.2 bt36066.1 bt36066.2.1 bt36066.2.2.1)))))))
end
def customslaw38_play.f (k : Nat) (l0 : List Int) : Option (Int × List Int × List Int × Int × Int × Bool) := (customsmade_Cut.f l0 120).bind fun t36003 => ((some (t36003, 0)).bind fun bt36005 => (customslaw38_play.l0 k 0 0 0 ([] : List Int) ([] : List Int) bt36005.1 bt36005.2))
theorem customslaw38_play.mono_l : ∀ k, (∀ y0 y1 y2 y3 y4 y5 y6, LeO (customslaw38_play.l0 k y0 y1 y2 y3 y4 y5 y6) (customslaw38_play.l0 (k + 1) y0 y1 y2 y3 y4 y5 y6)) ∧ (∀ y0 y1 y2 y3 y4 y5 y6 y7 y8 y9 y10, LeO (customslaw38_play.j3 k y0 y1 y2 y3 y4 y5 y6 y7 y8 y9 y10) (customslaw38_play.j3 (k + 1) y0 y1 y2 y3 y4 y5 y6 y7 y8 y9 y10)) ∧ (∀ y0 y1 y2 y3 y4 y5 y6 y7 y8 y9 y10 y11 y12, LeO (customslaw38_play.j1 k y0 y1 y2 y3 y4 y5 y6 y7 y8 y9 y10 y11 y12) (customslaw38_play.j1 (k + 1) y0 y1 y2 y3 y4 y5 y6 y7 y8 y9 y10 y11 y12)) ∧ (∀ y0 y1 y2 y3 y4 y5 y6 y7 y8, LeO (customslaw38_play.j2 k y0 y1 y2 y3 y4 y5 y6 y7 y8) (customslaw38_play.j2 (k + 1) y0 y1 y2 y3 y4 y5 y6 y7 y8))
  | 0 => ⟨fun _ _ _ _ _ _ _ r h => by simp [customslaw38_play.l0] at h, fun _ _ _ _ _ _ _ _ _ _ _ r h => by simp [customslaw38_play.j3] at h, fun _ _ _ _ _ _ _ _ _ _ _ _ _ r h => by simp [customslaw38_play.j1] at h, fun _ _ _ _ _ _ _ _ _ r h => by simp [customslaw38_play.j2] at h⟩
  | k + 1 => by
    obtain ⟨ih0, ih1, ih2, ih3⟩ := customslaw38_play.mono_l k
    refine ⟨?_, ?_, ?_, ?_⟩
    · intro y0 y1 y2 y3 y4 y5 y6
      unfold customslaw38_play.l0
      repeat' first
      | (with_reducible exact ih0 _ _ _ _ _ _ _)
      | (with_reducible exact ih1 _ _ _ _ _ _ _ _ _ _ _)
      | (with_reducible exact ih2 _ _ _ _ _ _ _ _ _ _ _ _ _)
      | (with_reducible exact ih3 _ _ _ _ _ _ _ _ _)
      | (with_reducible exact channel_Deliver.mono _ _ _ _ _ _)
      | (with_reducible exact channel_Transmit.mono _ _ _ _ _)
      | (with_reducible exact LeO.refl _)
      | (with_reducible exact LeO.none _)
      | (with_reducible refine LeO.ite ?_ ?_)
      | (with_reducible refine LeO.bind ?_ (fun _ => ?_))
      | exact ih0 _ _ _ _ _ _ _
      | exact ih1 _ _ _ _ _ _ _ _ _ _ _
      | exact ih2 _ _ _ _ _ _ _ _ _ _ _ _ _
      | exact ih3 _ _ _ _ _ _ _ _ _
      | exact channel_Deliver.mono _ _ _ _ _ _
      | exact channel_Transmit.mono _ _ _ _ _
      | exact LeO.none _
      | refine LeO.ite ?_ ?_
      | refine LeO.bind ?_ (fun _ => ?_)
    · intro y0 y1 y2 y3 y4 y5 y6 y7 y8 y9 y10
      unfold customslaw38_play.j3
      repeat' first
      | (with_reducible exact ih0 _ _ _ _ _ _ _)
      | (with_reducible exact ih1 _ _ _ _ _ _ _ _ _ _ _)
      | (with_reducible exact ih2 _ _ _ _ _ _ _ _ _ _ _ _ _)
      | (with_reducible exact ih3 _ _ _ _ _ _ _ _ _)
      | (with_reducible exact channel_Deliver.mono _ _ _ _ _ _)
      | (with_reducible exact channel_Transmit.mono _ _ _ _ _)
      | (with_reducible exact LeO.refl _)
      | (with_reducible exact LeO.none _)
      | (with_reducible refine LeO.ite ?_ ?_)
      | (with_reducible refine LeO.bind ?_ (fun _ => ?_))
      | exact ih0 _ _ _ _ _ _ _
      | exact ih1 _ _ _ _ _ _ _ _ _ _ _
      | exact ih2 _ _ _ _ _ _ _ _ _ _ _ _ _
      | exact ih3 _ _ _ _ _ _ _ _ _
      | exact channel_Deliver.mono _ _ _ _ _ _
      | exact channel_Transmit.mono _ _ _ _ _
      | exact LeO.none _
      | refine LeO.ite ?_ ?_
      | refine LeO.bind ?_ (fun _ => ?_)
    · intro y0 y1 y2 y3 y4 y5 y6 y7 y8 y9 y10 y11 y12
      unfold customslaw38_play.j1
      repeat' first
      | (with_reducible exact ih0 _ _ _ _ _ _ _)
      | (with_reducible exact ih1 _ _ _ _ _ _ _ _ _ _ _)
      | (with_reducible exact ih2 _ _ _ _ _ _ _ _ _ _ _ _ _)
      | (with_reducible exact ih3 _ _ _ _ _ _ _ _ _)
      | (with_reducible exact channel_Deliver.mono _ _ _ _ _ _)
      | (with_reducible exact channel_Transmit.mono _ _ _ _ _)
      | (with_reducible exact LeO.refl _)
      | (with_reducible exact LeO.none _)
      | (with_reducible refine LeO.ite ?_ ?_)
      | (with_reducible refine LeO.bind ?_ (fun _ => ?_))
      | exact ih0 _ _ _ _ _ _ _
      | exact ih1 _ _ _ _ _ _ _ _ _ _ _
      | exact ih2 _ _ _ _ _ _ _ _ _ _ _ _ _
      | exact ih3 _ _ _ _ _ _ _ _ _
      | exact channel_Deliver.mono _ _ _ _ _ _
      | exact channel_Transmit.mono _ _ _ _ _
      | exact LeO.none _
      | refine LeO.ite ?_ ?_
      | refine LeO.bind ?_ (fun _ => ?_)
    · intro y0 y1 y2 y3 y4 y5 y6 y7 y8
      unfold customslaw38_play.j2
      repeat' first
      | (with_reducible exact ih0 _ _ _ _ _ _ _)
      | (with_reducible exact ih1 _ _ _ _ _ _ _ _ _ _ _)
      | (with_reducible exact ih2 _ _ _ _ _ _ _ _ _ _ _ _ _)
      | (with_reducible exact ih3 _ _ _ _ _ _ _ _ _)
      | (with_reducible exact channel_Deliver.mono _ _ _ _ _ _)
      | (with_reducible exact channel_Transmit.mono _ _ _ _ _)
      | (with_reducible exact LeO.refl _)
      | (with_reducible exact LeO.none _)
      | (with_reducible refine LeO.ite ?_ ?_)
      | (with_reducible refine LeO.bind ?_ (fun _ => ?_))
      | exact ih0 _ _ _ _ _ _ _
      | exact ih1 _ _ _ _ _ _ _ _ _ _ _
      | exact ih2 _ _ _ _ _ _ _ _ _ _ _ _ _
      | exact ih3 _ _ _ _ _ _ _ _ _
      | exact channel_Deliver.mono _ _ _ _ _ _
      | exact channel_Transmit.mono _ _ _ _ _
      | exact LeO.none _
      | refine LeO.ite ?_ ?_
      | refine LeO.bind ?_ (fun _ => ?_)
theorem customslaw38_play.mono : ∀ a0 k, LeO (customslaw38_play.f k a0) (customslaw38_play.f (k + 1) a0) := by
  intro a0 k
  obtain ⟨ih0, ih1, ih2, ih3⟩ := customslaw38_play.mono_l k
  unfold customslaw38_play.f
  repeat' first
      | (with_reducible exact ih0 _ _ _ _ _ _ _)
      | (with_reducible exact ih1 _ _ _ _ _ _ _ _ _ _ _)
      | (with_reducible exact ih2 _ _ _ _ _ _ _ _ _ _ _ _ _)
      | (with_reducible exact ih3 _ _ _ _ _ _ _ _ _)
      | (with_reducible exact channel_Deliver.mono _ _ _ _ _ _)
      | (with_reducible exact channel_Transmit.mono _ _ _ _ _)
      | (with_reducible exact LeO.refl _)
      | (with_reducible exact LeO.none _)
      | (with_reducible refine LeO.ite ?_ ?_)
      | (with_reducible refine LeO.bind ?_ (fun _ => ?_))
      | exact ih0 _ _ _ _ _ _ _
      | exact ih1 _ _ _ _ _ _ _ _ _ _ _
      | exact ih2 _ _ _ _ _ _ _ _ _ _ _ _ _
      | exact ih3 _ _ _ _ _ _ _ _ _
      | exact channel_Deliver.mono _ _ _ _ _ _
      | exact channel_Transmit.mono _ _ _ _ _
      | exact LeO.none _
      | refine LeO.ite ?_ ?_
      | refine LeO.bind ?_ (fun _ => ?_)
def customslaw38_play.T8 : Bool × List (List Nat × List Nat) := (true, [([], []), ([], []), ([1], [1]), ([0, 2, 2], [0, 2]), ([3], [3]), ([4], [4]), ([4], [4]), ([5, 3, 0, 1, 2, 3, 4, 5], [5]), ([6, 7, 0, 1, 2, 3, 4, 5, 6, 7], [6])])
def customslaw38_play.B8 : List Nat := [0, 0, 2, 7, 15, 31, 31, 63, 255]
theorem customslaw38_play.tab8 : rtab .any (opsOf Try.f36 8) = customslaw38_play.T8 := by kernel_rfl
theorem customslaw38_play.bits8 : waitsOk customslaw38_play.T8.2 customslaw38_play.B8 = true := by kernel_rfl
def customslaw38_play.T9 : Bool × List (List Nat × List Nat) := (true, [([], []), ([], []), ([1], [1]), ([0, 2, 2], [0, 2]), ([3], [3]), ([4], [4]), ([4], [4]), ([5, 3, 0, 1, 2, 3, 4, 5], [5]), ([6, 7, 0, 1, 2, 3, 4, 5, 6, 7], [6])])
def customslaw38_play.B9 : List Nat := [0, 0, 2, 7, 15, 31, 31, 63, 255]
theorem customslaw38_play.tab9 : rtab .any (opsOf Try.f36 9) = customslaw38_play.T9 := by kernel_rfl
theorem customslaw38_play.bits9 : waitsOk customslaw38_play.T9.2 customslaw38_play.B9 = true := by kernel_rfl
def customslaw38_play.T18 : Bool × List (List Nat × List Nat) := (true, [([], []), ([], []), ([1], [1]), ([], []), ([0, 2, 3, 2], [0, 2, 3]), ([4], [4]), ([5], [5]), ([5], [5]), ([5], [5]), ([6, 4, 0, 1, 2, 3, 4, 5, 6], [6]), ([7, 9, 0, 1, 2, 3, 4, 5, 6, 7, 9], [7]), ([8, 10, 0, 1, 2, 3, 4, 5, 6, 7, 8, 9, 10], [8])])
def customslaw38_play.B18 : List Nat := [0, 0, 2, 0, 15, 31, 63, 63, 63, 127, 767, 2047]
theorem customslaw38_play.tab18 : rtab .any (opsOf Try.f36 18) = customslaw38_play.T18 := by kernel_rfl
theorem customslaw38_play.bits18 : waitsOk customslaw38_play.T18.2 customslaw38_play.B18 = true := by kernel_rfl
def customslaw38_play.T22 : Bool × List (List Nat × List Nat) := (true, [([], []), ([], []), ([1], [1]), ([0, 2, 2], [0, 2]), ([3], [3]), ([4], [4]), ([4], [4]), ([5, 3, 0, 1, 2, 3, 4, 5], [5]), ([6, 7, 0, 1, 2, 3, 4, 5, 6, 7], [6])])
def customslaw38_play.B22 : List Nat := [0, 0, 2, 7, 15, 31, 31, 63, 255]
theorem customslaw38_play.tab22 : rtab .any (opsOf Try.f36 22) = customslaw38_play.T22 := by kernel_rfl
theorem customslaw38_play.bits22 : waitsOk customslaw38_play.T22.2 customslaw38_play.B22 = true := by kernel_rfl
def customslaw38_play.T24 : Bool × List (List Nat × List Nat) := (true, [([], []), ([], []), ([1], [1]), ([0, 2, 2], [0, 2]), ([3], [3]), ([4], [4]), ([4], [4]), ([5, 3, 0, 1, 2, 3, 4, 5], [5]), ([6, 7, 0, 1, 2, 3, 4, 5, 6, 7], [6])])
def customslaw38_play.B24 : List Nat := [0, 0, 2, 7, 15, 31, 31, 63, 255]
theorem customslaw38_play.tab24 : rtab .any (opsOf Try.f36 24) = customslaw38_play.T24 := by kernel_rfl
theorem customslaw38_play.bits24 : waitsOk customslaw38_play.T24.2 customslaw38_play.B24 = true := by kernel_rfl
set_option maxHeartbeats 8000000 in
set_option maxRecDepth 100000 in
theorem customslaw38_play.calls (k : Nat) (A0 : Option Addr) (c0 : Nat) (l0 : List Int) (r1 : Int) (r2 : List Int) (r3 : List Int) (r4 : Int) (r5 : Int) (r6 : Bool) (w : World) (hr0 : Kd.C (Kd.int .i64) w A0 l0.length l0) (hc0 : l0.length ≤ c0) (h : customslaw38_play.f k l0 = some (r1, r2, r3, r4, r5, r6)) :
    Calls Try.prog 36 #[.slice A0 l0.length c0] w fun e w' => ∃ v1_ v2_ : Value, e = .returned (.tuple #[.agg #[.int .i64 r1, v1_, v2_], .int .i64 r4, .int .i64 r5, .bool r6]) ∧ Kd.R (Kd.int .i64) 3 w' w.heap.size (fun k_ => some k_ ≠ (v2_ : Value).ownBlock) v1_ r2 ∧ Kd.R (Kd.int .i64) 3 w' w.heap.size (fun k_ => some k_ ≠ (v1_ : Value).ownBlock) v2_ r3 ∧ Below w.heap.size w w' := by
  have hu44 := Try.underlying44
  have hu79 := Try.underlying79
  have HR0 := Aside0.mk hr0
  have HC0 := Aside0.mk hc0
  clear hr0 hc0
  have HB := Aside0.mk (Below.refl w.heap.size w)
  have H : ((customsmade_Cut.f l0 120).bind fun t36003 => ((some (t36003, 0)).bind fun bt36005 => (customslaw38_play.l0 k 0 0 0 ([] : List Int) ([] : List Int) bt36005.1 bt36005.2))) = some (r1, r2, r3, r4, r5, r6) := h
  clear h
  replace H := Option.bind_eq_some_iff.mp H
  obtain ⟨t36003, A20, H⟩ := H
  replace H : ((some (t36003, 0)).bind fun bt36005 => (customslaw38_play.l0 k 0 0 0 ([] : List Int) ([] : List Int) bt36005.1 bt36005.2)) = some (r1, r2, r3, r4, r5, r6) := H
  have A2 := Aside0.mk A20
  clear A20
  replace H := Option.bind_eq_some_iff.mp H
  obtain ⟨⟨t36005, t36006⟩, A30, H⟩ := H
  replace H : (customslaw38_play.l0 k 0 0 0 ([] : List Int) ([] : List Int) t36005 t36006) = some (r1, r2, r3, r4, r5, r6) := H
  have A3 := Aside0.mk A30
  clear A30
  have H' := Aside0.mk H
  clear H
  go_enter Try.func36, Try.ntmps36
  go_wp2_with (first | ((with_reducible refine gate_dst (N := 2) rfl ?_); refine box_event ?hg (N := 2) ?hd (cs := #[.int .i64 0, .slice none 0 0, .slice none 0 0]) (t := 44) ?hr ?_; (case hd => rfl); (case hg => rfl); (case hr => first | (go_simp; done) | (go_simp; rfl)); intro gb36001 hg w4 hbox hb; have n1_ := Aside0.mk (hbox); have n2_ := Aside0.mk ((by rw [hg]; exact (below_size (below_ext HB.out)) : w.heap.size ≤ gb36001)); have n3_ := Aside0.mk ((by rw [hg]; exact (below_size (below_ext HB.out)) : w.heap.size ≤ gb36001)); have BK36001 := n1_; have GW36001 := n2_; have GE36001 := n3_; have GI36001 := GE_.mk GE36001.out; replace HB := mvH HB hb; clear n1_ n2_ n3_; clear hb hbox hg) | ((with_reducible refine gate_dst (N := 6) rfl ?_); refine box_event ?hg (N := 6) ?hd (cs := #[.int .i64 0, .slice none 0 0, .slice none 0 0]) (t := 44) ?hr ?_; (case hd => rfl); (case hg => rfl); (case hr => first | (go_simp; done) | (go_simp; rfl)); intro gb36002 hg w5 hbox hb; have n2_ := Aside0.mk (hbox); have n3_ := Aside0.mk ((by rw [hg]; exact (below_size (below_extB HB.out)) : w.heap.size ≤ gb36002)); have n4_ := Aside0.mk ((by rw [hg]; exact (below_size (below_extB HB.out)) : w.heap.size ≤ gb36002)); have n5_ := Aside0.mk ((by rw [hg]; exact Nat.ne_of_lt (blk_lt (blk_ext BK36001.out)) : gb36001 ≠ gb36002)); have n6_ := Aside0.mk ((by rw [hg]; exact Nat.ne_of_gt (blk_lt (blk_ext BK36001.out)) : gb36002 ≠ gb36001)); have BK36002 := n2_; have GW36002 := n3_; have GE36002 := n4_; have GI36002 := GE_.mk GE36002.out; have NB36001_36002 := n5_; have NI36001_36002 := NE_.mk NB36001_36002.out; have NB36002_36001 := n6_; have NI36002_36001 := NE_.mk NB36002_36001.out; replace BK36001 := mvB BK36001 hb; replace HB := mvH HB hb; clear n2_ n3_ n4_ n5_ n6_; clear hb hbox hg) | ((with_reducible refine gate_callee (f := 67) rfl ?_); refine goesL_ (some 14) rfl rfl Try.func67 (by kernel_rfl) rfl #[.slice A0 l0.length c0, .int .i64 120] rfl (by (try simp only [List.map_toArray, List.map_cons, List.map_nil]); first | done | rfl | (simp only [List.length_drop, List.length_take]; rfl)) ?_; (with_reducible refine (customsmade_Cut.calls _ _ l0 120 t36003 _ ?side1 ?side2 A2.out).mono ?_); (case side1 => repeat (first | exact (Kd.C_below HR0.out HB.out) | (with_reducible refine Kd.C_alloc ?_ _) | (with_reducible refine Kd.C_drewN ?_ _) | (with_reducible refine Kd.C_drew ?_))); (case side2 => exact HC0.out); rintro e w6 ⟨A36004, c36004, rfl, hcr_, hrr_, hb⟩; refine ⟨_, rfl, ?_⟩; have HR36004 := Aside0.mk (hrr_ _ HR0.out); have HC36004 := Aside0.mk hcr_; clear hrr_ hcr_; replace BK36001 := mvB BK36001 hb; replace BK36002 := mvB BK36002 hb; replace HB := mvH HB hb; (try clear hb); (try clear hb2); (try clear hk); (try clear hi)) | ((with_reducible refine gate_dst (N := 16) rfl ?_); refine box_event ?hg (N := 16) ?hd (cs := #[.slice A36004 t36003.length c36004, .int .i64 0]) (t := 79) ?hr ?_; (case hd => rfl); (case hg => rfl); (case hr => first | (go_simp; done) | (go_simp; rfl)); intro g36007 hg_ w7 hbx_ hb2; have hi : IsS79 w w7 g36007 t36005 t36006 := (by have hx_ := A3.out; simp only [Option.some.injEq, Prod.mk.injEq] at hx_; obtain ⟨rfl, rfl⟩ := hx_; exact ⟨_, _, hbx_, by rw [hg_]; exact (below_extB HB.out).size, HR36004.out⟩); have hb := below_step (below_extB HB.out) hb2; clear hg_ hbx_; have n0_ := Aside0.mk (blk_below (blk_ext BK36001.out) hb2); have n1_ := Aside0.mk (blk_below (blk_ext BK36002.out) hb2); have n2_ := Aside0.mk (hb); have n3_ := Aside0.mk (hi); have n4_ := Aside0.mk (IsS79.ne_blk hi (blk_below (blk_ext BK36001.out) hb2) (by decide)); have n5_ := Aside0.mk (Ne.symm (IsS79.ne_blk hi (blk_below (blk_ext BK36001.out) hb2) (by decide))); have n6_ := Aside0.mk (IsS79.ne_blk hi (blk_below (blk_ext BK36002.out) hb2) (by decide)); have n7_ := Aside0.mk (Ne.symm (IsS79.ne_blk hi (blk_below (blk_ext BK36002.out) hb2) (by decide))); clear BK36001; clear BK36002; clear HB; have BK36001 := n0_; have BK36002 := n1_; have HB := n2_; have HI36007 := n3_; have NB36007_36001 := n4_; have NI36007_36001 := NE_.mk NB36007_36001.out; have NB36001_36007 := n5_; have NI36001_36007 := NE_.mk NB36001_36007.out; have NB36007_36002 := n6_; have NI36007_36002 := NE_.mk NB36007_36002.out; have NB36002_36007 := n7_; have NI36002_36007 := NE_.mk NB36002_36007.out; clear n0_ n1_ n2_ n3_ n4_ n5_ n6_ n7_; (try clear hb); (try clear hb2); (try clear hk); (try clear hi)))
  go_loopg [7, 8] k (fun kq v7 v8 w' => ∃ (x7_1 : Int) (x8_1 : Int) (x36002000_1 : Int) (x36003000_1 : Int) (x36003001_1 : List Int) (x36003002_1 : List Int) (x36008001_1 : Int) (u36003001 : Value) (u36003002 : Value), v7 = .int .i64 x7_1 ∧ v8 = .int .i64 x8_1 ∧ Aside0 (customslaw38_play.l0 kq x7_1 x8_1 x36003000_1 x36003001_1 x36003002_1 t36005 x36008001_1 = some (r1, r2, r3, r4, r5, r6)) ∧ Aside0 (kq ≤ k) ∧ Aside0 (Kd.R (Kd.int .i64) 3 w' w.heap.size (fun k_ => some k_ ≠ (u36003002 : Value).ownBlock) u36003001 x36003001_1) ∧ Aside0 (Kd.R (Kd.int .i64) 3 w' w.heap.size (fun k_ => some k_ ≠ (u36003001 : Value).ownBlock) u36003002 x36003002_1) ∧ Aside0 (w'.heap[gb36001]? = some (.cells #[.int .i64 x36002000_1, (.slice none 0 0), (.slice none 0 0)] 44 (0, 0))) ∧ Aside0 (w'.heap[gb36002]? = some (.cells #[.int .i64 x36003000_1, u36003001, u36003002] 44 (0, 0))) ∧ Aside0 (IsS79 w w' g36007 t36005 x36008001_1) ∧ Aside0 (Below w.heap.size w w'))
  case atStart => exact ⟨(0), (0), (0), (0), (([] : List Int)), (([] : List Int)), (t36006), (.slice none 0 0), (.slice none 0 0), (by first | rfl | (simp; done) | (simp [*]; done)), (by first | rfl | (simp; done) | (simp [*]; done)), H', ⟨Nat.le_refl _⟩, ⟨by first | exact Kd.R_nil _ _ _ _ _ | exact Kd.N_nil _ _ _ _ _ | exact Kd.V_nil _ _ _ _ _ | exact Kd.Q_nil _ _ _ _ _ | exact Kd.S_nil _ _ _ _ _⟩, ⟨by first | exact Kd.R_nil _ _ _ _ _ | exact Kd.N_nil _ _ _ _ _ | exact Kd.V_nil _ _ _ _ _ | exact Kd.Q_nil _ _ _ _ _ | exact Kd.S_nil _ _ _ _ _⟩, ⟨blk_ext BK36001.out⟩, ⟨blk_ext BK36002.out⟩, ⟨by repeat (first | (with_reducible first | exact HI36007.out | apply IsS79.alloc | apply IsS79.drewN | apply IsS79.drew | apply IsS79.set_1 | refine IsS79.far ?_ NB36007_36001.out _ | refine IsS79.far ?_ NB36007_36002.out _) | exact HI36007.out)⟩, ⟨by repeat (first | (with_reducible first | exact HB.out | apply bA | apply bN | apply b1 | refine bS ?_ (IsS79.ge HI36007.out) | refine bS ?_ GE36001.out | refine bS ?_ GE36002.out) | exact HB.out)⟩⟩
  case round =>
    clear H'
    try clear p2
    try clear c3
    try clear c6
    obtain ⟨x7_1, x8_1, x36002000_1, x36003000_1, x36003001_1, x36003002_1, x36008001_1, u36003001, u36003002, rfl, rfl, HA, HK1, HO_36003001, HO_36003002, BK36001, BK36002, HI36007, HB⟩ := hrel
    cases gk with
    | zero => exact absurd HA.out (by simp [customslaw38_play.l0])
    | succ k1 =>
      have H := HA.out
      clear HA
      simp only [customslaw38_play.l0] at H
      replace H := Option.bind_eq_some_iff.mp H
      obtain ⟨⟨t36008, t36009⟩, A80, H⟩ := H
      replace H : (if t36008 = true then ((customsmade_Source_Next.f t36005 t36009 8).bind fun bt36011 => (if bt36011.1 = 0 then (customslaw38_play.j3 k1 (wrap64 (x7_1 + 1)) x8_1 0 x36003000_1 x36003001_1 x36003002_1 t36005 bt36011.2 x36003000_1 x36003001_1 x36003002_1) else (if bt36011.1 = 1 then (customslaw38_play.j1 k1 x7_1 x8_1 0 bt36011.1 (bt36011.1 == 1) x36003000_1 x36003001_1 x36003002_1 t36005 bt36011.2 x36003000_1 x36003001_1 x36003002_1) else (customslaw38_play.j1 k1 x7_1 x8_1 0 bt36011.1 (bt36011.1 == 2) x36003000_1 x36003001_1 x36003002_1 t36005 bt36011.2 x36003000_1 x36003001_1 x36003002_1)))) else (some (x36003000_1, x36003001_1, x36003002_1, x7_1, x8_1, true))) = some (r1, r2, r3, r4, r5, r6) := H
      have A8 := Aside0.mk A80
      clear A80
      by_cases c9 : t36008 = true
      · subst c9
        have H1 : ((customsmade_Source_Next.f t36005 t36009 8).bind fun bt36011 => (if bt36011.1 = 0 then (customslaw38_play.j3 k1 (wrap64 (x7_1 + 1)) x8_1 0 x36003000_1 x36003001_1 x36003002_1 t36005 bt36011.2 x36003000_1 x36003001_1 x36003002_1) else (if bt36011.1 = 1 then (customslaw38_play.j1 k1 x7_1 x8_1 0 bt36011.1 (bt36011.1 == 1) x36003000_1 x36003001_1 x36003002_1 t36005 bt36011.2 x36003000_1 x36003001_1 x36003002_1) else (customslaw38_play.j1 k1 x7_1 x8_1 0 bt36011.1 (bt36011.1 == 2) x36003000_1 x36003001_1 x36003002_1 t36005 bt36011.2 x36003000_1 x36003001_1 x36003002_1)))) = some (r1, r2, r3, r4, r5, r6) := by rw [if_pos rfl] at H; exact H
        clear H
        have H := H1
        clear H1
        replace H := Option.bind_eq_some_iff.mp H
        obtain ⟨⟨t36011, t36012⟩, A100, H⟩ := H
        replace H : (if t36011 = 0 then (customslaw38_play.j3 k1 (wrap64 (x7_1 + 1)) x8_1 0 x36003000_1 x36003001_1 x36003002_1 t36005 t36012 x36003000_1 x36003001_1 x36003002_1) else (if t36011 = 1 then (customslaw38_play.j1 k1 x7_1 x8_1 0 t36011 (t36011 == 1) x36003000_1 x36003001_1 x36003002_1 t36005 t36012 x36003000_1 x36003001_1 x36003002_1) else (customslaw38_play.j1 k1 x7_1 x8_1 0 t36011 (t36011 == 2) x36003000_1 x36003001_1 x36003002_1 t36005 t36012 x36003000_1 x36003001_1 x36003002_1))) = some (r1, r2, r3, r4, r5, r6) := H
        have A10 := Aside0.mk A100
        clear A100
        have HC11 := Aside0.mk H
        clear H
        go_upto_block 2 with (first | ((with_reducible refine gate_callee (f := 68) rfl ?_); refine goesL_ (some 18) rfl rfl Try.func68 (by kernel_rfl) rfl #[.pointer (some ⟨g36007, 0, none⟩)] rfl (by (try simp only [List.map_toArray, List.map_cons, List.map_nil]); first | done | rfl | (simp only [List.length_drop, List.length_take]; rfl)) ?_; (with_reducible refine (customsmade_Source_Left.calls g36007 t36005 x36008001_1 true t36009 w _ ?side1 ?side2 A8.out).mono ?_); (case side1 => repeat (first | (with_reducible first | exact HI36007.out | apply IsS79.alloc | apply IsS79.drewN | apply IsS79.drew | apply IsS79.set_1 | refine IsS79.far ?_ NB36007_36001.out _ | refine IsS79.far ?_ NB36007_36002.out _) | exact HI36007.out)); (case side2 => repeat (first | (with_reducible first | exact HB.out | apply bA | apply bN | apply b1 | refine bS ?_ (IsS79.ge HI36007.out) | refine bS ?_ GE36001.out | refine bS ?_ GE36002.out) | exact HB.out)); rintro e w12 ⟨rfl, hi, hb, hk⟩; refine ⟨_, rfl, ?_⟩; have n0_ := Aside0.mk (Kd.R_mono (Kd.R_keep (IsS79.apart (show IsS79 w _ g36007 t36005 x36008001_1 from by repeat (first | (with_reducible first | exact HI36007.out | apply IsS79.alloc | apply IsS79.drewN | apply IsS79.drew | apply IsS79.set_1 | refine IsS79.far ?_ NB36007_36001.out _ | refine IsS79.far ?_ NB36007_36002.out _) | exact HI36007.out)) (Kd.R_ext HO_36003001.out) (by decide)) hk (fun _ h => h.2)) (fun _ h => h.1)); have n1_ := Aside0.mk (Kd.R_mono (Kd.R_keep (IsS79.apart (show IsS79 w _ g36007 t36005 x36008001_1 from by repeat (first | (with_reducible first | exact HI36007.out | apply IsS79.alloc | apply IsS79.drewN | apply IsS79.drew | apply IsS79.set_1 | refine IsS79.far ?_ NB36007_36001.out _ | refine IsS79.far ?_ NB36007_36002.out _) | exact HI36007.out)) (Kd.R_ext HO_36003002.out) (by decide)) hk (fun _ h => h.2)) (fun _ h => h.1)); have n2_ := Aside0.mk (KeepBut.blk hk (g' := gb36001) (o := .cells #[.int .i64 x36002000_1, .slice none 0 0, .slice none 0 0] 44 (0, 0)) (blk_ext BK36001.out) NB36001_36007.out (by simp)); have n3_ := Aside0.mk (KeepBut.blk hk (g' := gb36002) (o := .cells #[.int .i64 x36003000_1, u36003001, u36003002] 44 (0, 0)) (blk_ext BK36002.out) NB36002_36007.out (by simp)); have n4_ := Aside0.mk (hb); have n5_ := Aside0.mk (hi); clear HO_36003001; clear HO_36003002; clear BK36001; clear BK36002; clear HB; clear HI36007; have HO_36003001 := n0_; have HO_36003002 := n1_; have BK36001 := n2_; have BK36002 := n3_; have HB := n4_; have HI36007 := n5_; clear n0_ n1_ n2_ n3_ n4_ n5_; (try clear hb); (try clear hb2); (try clear hk); (try clear hi); have hnb13 := NB36002_36001.out; have hnc13 := NB36001_36002.out; have hnb14 := NB36002_36007.out; have hnc14 := NB36007_36002.out; have hcz15_0 : w12.cell? ⟨gb36002, 0, none⟩ = some (.int .i64 x36003000_1) := (blk_cell BK36002.out 0).trans rfl; have hcz15_1 : w12.cell? ⟨gb36002, 1, none⟩ = some (u36003001) := (blk_cell BK36002.out 1).trans rfl; have hcz15_2 : w12.cell? ⟨gb36002, 2, none⟩ = some (u36003002) := (blk_cell BK36002.out 2).trans rfl; have hfz15_0 := blk_frozen BK36002.out 0; have hfz15_1 := blk_frozen BK36002.out 1; have hfz15_2 := blk_frozen BK36002.out 2) | ((with_reducible refine gate_dst (N := 10) rfl ?_); refine box_event ?hg (N := 10) ?hd (cs := #[.int .i64 0, .slice none 0 0, .slice none 0 0]) (t := 44) ?hr ?_; (case hd => rfl); (case hg => rfl); (case hr => first | (go_simp; done) | (go_simp; rfl)); intro gb36010 hg w16 hbox hb; have n4_ := Aside0.mk (IsS79.below (by repeat (first | (with_reducible first | exact HI36007.out | apply IsS79.alloc | apply IsS79.drewN | apply IsS79.drew | apply IsS79.set_1 | refine IsS79.far ?_ NB36007_36001.out _ | refine IsS79.far ?_ NB36007_36002.out _) | exact HI36007.out)) hb); have n5_ := Aside0.mk (below_step (by repeat (first | (with_reducible first | exact HB.out | apply bA | apply bN | apply b1 | refine bS ?_ (IsS79.ge HI36007.out) | refine bS ?_ GE36001.out | refine bS ?_ GE36002.out) | exact HB.out)) hb); have n6_ := Aside0.mk (hbox); have n7_ := Aside0.mk ((by rw [hg]; exact (below_size (by repeat (first | (with_reducible first | exact HB.out | apply bA | apply bN | apply b1 | refine bS ?_ (IsS79.ge HI36007.out) | refine bS ?_ GE36001.out | refine bS ?_ GE36002.out) | exact HB.out))) : w.heap.size ≤ gb36010)); have n8_ := Aside0.mk ((by rw [hg]; exact (below_size (by repeat (first | (with_reducible first | exact HB.out | apply bA | apply bN | apply b1 | refine bS ?_ (IsS79.ge HI36007.out) | refine bS ?_ GE36001.out | refine bS ?_ GE36002.out) | exact HB.out))) : w.heap.size ≤ gb36010)); have n9_ := Aside0.mk ((by rw [hg]; exact Nat.ne_of_lt (blk_lt (blk_ext BK36001.out)) : gb36001 ≠ gb36010)); have n10_ := Aside0.mk ((by rw [hg]; exact Nat.ne_of_gt (blk_lt (blk_ext BK36001.out)) : gb36010 ≠ gb36001)); have n11_ := Aside0.mk ((by rw [hg]; exact Nat.ne_of_lt (blk_lt (blk_ext BK36002.out)) : gb36002 ≠ gb36010)); have n12_ := Aside0.mk ((by rw [hg]; exact Nat.ne_of_gt (blk_lt (blk_ext BK36002.out)) : gb36010 ≠ gb36002)); have n13_ := Aside0.mk ((by rw [hg]; exact Nat.ne_of_lt (IsS79.lt (show IsS79 w _ g36007 t36005 t36009 from by repeat (first | (with_reducible first | exact HI36007.out | apply IsS79.alloc | apply IsS79.drewN | apply IsS79.drew | apply IsS79.set_1 | refine IsS79.far ?_ NB36007_36001.out _ | refine IsS79.far ?_ NB36007_36002.out _) | exact HI36007.out))) : g36007 ≠ gb36010)); have n14_ := Aside0.mk ((by rw [hg]; exact Nat.ne_of_gt (IsS79.lt (show IsS79 w _ g36007 t36005 t36009 from by repeat (first | (with_reducible first | exact HI36007.out | apply IsS79.alloc | apply IsS79.drewN | apply IsS79.drew | apply IsS79.set_1 | refine IsS79.far ?_ NB36007_36001.out _ | refine IsS79.far ?_ NB36007_36002.out _) | exact HI36007.out))) : gb36010 ≠ g36007)); clear HI36007; clear HB; have HI36007 := n4_; have HB := n5_; have BK36010 := n6_; have GW36010 := n7_; have GE36010 := n8_; have GI36010 := GE_.mk GE36010.out; have NB36001_36010 := n9_; have NI36001_36010 := NE_.mk NB36001_36010.out; have NB36010_36001 := n10_; have NI36010_36001 := NE_.mk NB36010_36001.out; have NB36002_36010 := n11_; have NI36002_36010 := NE_.mk NB36002_36010.out; have NB36010_36002 := n12_; have NI36010_36002 := NE_.mk NB36010_36002.out; have NB36007_36010 := n13_; have NI36007_36010 := NE_.mk NB36007_36010.out; have NB36010_36007 := n14_; have NI36010_36007 := NE_.mk NB36010_36007.out; replace HO_36003001 := mvR HO_36003001 hb; replace HO_36003002 := mvR HO_36003002 hb; replace BK36001 := mvB BK36001 hb; replace BK36002 := mvB BK36002 hb; clear n4_ n5_ n6_ n7_ n8_ n9_ n10_ n11_ n12_ n13_ n14_; clear hb hbox hg; have hnb17 := NB36010_36001.out; have hnc17 := NB36001_36010.out; have hnb18 := NB36010_36002.out; have hnc18 := NB36002_36010.out; have hnb19 := NB36010_36007.out; have hnc19 := NB36007_36010.out; have hcz20_0 : w16.cell? ⟨gb36010, 0, none⟩ = some (.int .i64 0) := (blk_cell BK36010.out 0).trans rfl; have hcz20_1 : w16.cell? ⟨gb36010, 1, none⟩ = some (.slice none 0 0) := (blk_cell BK36010.out 1).trans rfl; have hcz20_2 : w16.cell? ⟨gb36010, 2, none⟩ = some (.slice none 0 0) := (blk_cell BK36010.out 2).trans rfl; have hfz20_0 := blk_frozen BK36010.out 0; have hfz20_1 := blk_frozen BK36010.out 1; have hfz20_2 := blk_frozen BK36010.out 2; obtain ⟨Ao21, co21, eo21⟩ := Kd.R_slice HO_36003001.out; subst eo21; obtain ⟨Ao22, co22, eo22⟩ := Kd.R_slice HO_36003002.out; subst eo22) | ((with_reducible refine gate_callee (f := 69) rfl ?_); refine goesL_ (some 21) rfl rfl Try.func69 (by kernel_rfl) rfl #[.pointer (some ⟨g36007, 0, none⟩), .int .i64 8] rfl (by (try simp only [List.map_toArray, List.map_cons, List.map_nil]); first | done | rfl | (simp only [List.length_drop, List.length_take]; rfl)) ?_; (with_reducible refine (customsmade_Source_Next.calls g36007 t36005 t36009 8 t36011 t36012 w _ ?side1 ?side2 A10.out).mono ?_); (case side1 => repeat (first | (with_reducible first | exact HI36007.out | apply IsS79.alloc | apply IsS79.drewN | apply IsS79.drew | apply IsS79.set_1 | refine IsS79.far ?_ NB36007_36001.out _ | refine IsS79.far ?_ NB36007_36002.out _ | refine IsS79.far ?_ NB36007_36010.out _) | exact HI36007.out)); (case side2 => repeat (first | (with_reducible first | exact HB.out | apply bA | apply bN | apply b1 | refine bS ?_ (IsS79.ge HI36007.out) | refine bS ?_ GE36001.out | refine bS ?_ GE36002.out | refine bS ?_ GE36010.out) | exact HB.out)); rintro e w23 ⟨rfl, hi, hb, hk⟩; refine ⟨_, rfl, ?_⟩; have n0_ := Aside0.mk (Kd.R_mono (Kd.R_keep (IsS79.apart (show IsS79 w _ g36007 t36005 t36009 from by repeat (first | (with_reducible first | exact HI36007.out | apply IsS79.alloc | apply IsS79.drewN | apply IsS79.drew | apply IsS79.set_1 | refine IsS79.far ?_ NB36007_36001.out _ | refine IsS79.far ?_ NB36007_36002.out _ | refine IsS79.far ?_ NB36007_36010.out _) | exact HI36007.out)) (Kd.R_ext ((Kd.R_mono (Kd.R_far (p := ⟨gb36010, 2, none⟩) (Kd.R_far (p := ⟨gb36010, 1, none⟩) (Kd.R_far (p := ⟨gb36010, 0, none⟩) (Kd.R_types HO_36003001.out BK36010.out (by decide)) (fun _ hk => hk.2) (.int .i64 x36003000_1)) (fun _ hk => hk.2) (.slice Ao21 x36003001_1.length co21)) (fun _ hk => hk.2) (.slice Ao22 x36003002_1.length co22)) (fun _ h_ => h_.1)))) (by decide)) hk (fun _ h => h.2)) (fun _ h => h.1)); have n1_ := Aside0.mk (Kd.R_mono (Kd.R_keep (IsS79.apart (show IsS79 w _ g36007 t36005 t36009 from by repeat (first | (with_reducible first | exact HI36007.out | apply IsS79.alloc | apply IsS79.drewN | apply IsS79.drew | apply IsS79.set_1 | refine IsS79.far ?_ NB36007_36001.out _ | refine IsS79.far ?_ NB36007_36002.out _ | refine IsS79.far ?_ NB36007_36010.out _) | exact HI36007.out)) (Kd.R_ext ((Kd.R_mono (Kd.R_far (p := ⟨gb36010, 2, none⟩) (Kd.R_far (p := ⟨gb36010, 1, none⟩) (Kd.R_far (p := ⟨gb36010, 0, none⟩) (Kd.R_types HO_36003002.out BK36010.out (by decide)) (fun _ hk => hk.2) (.int .i64 x36003000_1)) (fun _ hk => hk.2) (.slice Ao21 x36003001_1.length co21)) (fun _ hk => hk.2) (.slice Ao22 x36003002_1.length co22)) (fun _ h_ => h_.1)))) (by decide)) hk (fun _ h => h.2)) (fun _ h => h.1)); have n2_ := Aside0.mk (KeepBut.blk hk (g' := gb36001) (o := .cells #[.int .i64 x36002000_1, .slice none 0 0, .slice none 0 0] 44 (0, 0)) (blk_extC BK36001.out) NB36001_36007.out (by simp)); have n3_ := Aside0.mk (KeepBut.blk hk (g' := gb36002) (o := .cells #[.int .i64 x36003000_1, .slice Ao21 x36003001_1.length co21, .slice Ao22 x36003002_1.length co22] 44 (0, 0)) (blk_extC BK36002.out) NB36002_36007.out (by simp)); have n4_ := Aside0.mk (KeepBut.blk hk (g' := gb36010) (o := .cells #[.int .i64 x36003000_1, .slice Ao21 x36003001_1.length co21, .slice Ao22 x36003002_1.length co22] 44 (0, 0)) (by (with_reducible repeat (first | refine blk_drewN ?_ _ | refine blk_drew ?_ | refine blk_alloc ?_ _)); refine blk_put (cs := #[.int .i64 x36003000_1, .slice Ao21 x36003001_1.length co21, .slice none 0 0]) ?_ 2 _ rfl; (with_reducible repeat (first | refine blk_drewN ?_ _ | refine blk_drew ?_ | refine blk_alloc ?_ _)); refine blk_put (cs := #[.int .i64 x36003000_1, .slice none 0 0, .slice none 0 0]) ?_ 1 _ rfl; (with_reducible repeat (first | refine blk_drewN ?_ _ | refine blk_drew ?_ | refine blk_alloc ?_ _)); refine blk_put (cs := #[.int .i64 0, .slice none 0 0, .slice none 0 0]) ?_ 0 _ rfl; exact blk_ext BK36010.out) NB36010_36007.out (by simp)); have n5_ := Aside0.mk (hb); have n6_ := Aside0.mk (hi); clear HO_36003001; clear HO_36003002; clear BK36001; clear BK36002; clear BK36010; clear HB; clear HI36007; have HO_36003001 := n0_; have HO_36003002 := n1_; have BK36001 := n2_; have BK36002 := n3_; have BK36010 := n4_; have HB := n5_; have HI36007 := n6_; clear n0_ n1_ n2_ n3_ n4_ n5_ n6_; (try clear hb); (try clear hb2); (try clear hk); (try clear hi)))
        (try simp only [Act.put, List.setIfInBounds_toArray, List.set_cons_zero, List.set_cons_succ])
        go_cut [7, 8, 12] (fun v7 v8 v12 wc => ∃ (kq : Nat) (x7_10 : Int) (x8_10 : Int) (x12_10 : Int) (x36008001_10 : Int) (x36011000_10 : Int) (x36011001_10 : List Int) (x36011002_10 : List Int) (u36011001 : Value) (u36011002 : Value), v7 = .int .i64 x7_10 ∧ v8 = .int .i64 x8_10 ∧ v12 = .int .i64 x12_10 ∧ Aside0 (customslaw38_play.j3 kq x7_10 x8_10 x12_10 x36003000_1 x36003001_1 x36003002_1 t36005 x36008001_10 x36011000_10 x36011001_10 x36011002_10 = some (r1, r2, r3, r4, r5, r6)) ∧ Aside0 (kq ≤ k1) ∧ Aside0 (Kd.R (Kd.int .i64) 3 wc w.heap.size (fun k_ => some k_ ≠ ((.slice Ao22 x36003002_1.length co22) : Value).ownBlock ∧ some k_ ≠ (u36011002 : Value).ownBlock) (.slice Ao21 x36003001_1.length co21) x36003001_1) ∧ Aside0 (Kd.R (Kd.int .i64) 3 wc w.heap.size (fun k_ => some k_ ≠ ((.slice Ao21 x36003001_1.length co21) : Value).ownBlock ∧ some k_ ≠ (u36011001 : Value).ownBlock) (.slice Ao22 x36003002_1.length co22) x36003002_1) ∧ Aside0 (Kd.R (Kd.int .i64) 3 wc w.heap.size (fun k_ => some k_ ≠ ((.slice Ao22 x36003002_1.length co22) : Value).ownBlock ∧ some k_ ≠ (u36011002 : Value).ownBlock) u36011001 x36011001_10) ∧ Aside0 (Kd.R (Kd.int .i64) 3 wc w.heap.size (fun k_ => some k_ ≠ ((.slice Ao21 x36003001_1.length co21) : Value).ownBlock ∧ some k_ ≠ (u36011001 : Value).ownBlock) u36011002 x36011002_10) ∧ Aside0 (wc.heap[gb36001]? = some (.cells #[.int .i64 x36002000_1, (.slice none 0 0), (.slice none 0 0)] 44 (0, 0))) ∧ Aside0 (wc.heap[gb36002]? = some (.cells #[.int .i64 x36003000_1, (.slice Ao21 x36003001_1.length co21), (.slice Ao22 x36003002_1.length co22)] 44 (0, 0))) ∧ Aside0 (wc.heap[gb36010]? = some (.cells #[.int .i64 x36011000_10, u36011001, u36011002] 44 (0, 0))) ∧ Aside0 (IsS79 w wc g36007 t36005 x36008001_10) ∧ Aside0 (Below w.heap.size w wc))
        case first =>
          have H := HC11.out
          clear HC11
          by_cases c24 : t36011 = 0
          · rw [if_pos c24] at H
            have c24b0 : (t36011 == 0) = true := beq_iff_eq.mpr c24
            have c24b1 : (t36011 != 0) = false := bne_eq_false_iff_eq.mpr c24
            clear c24
            (first | rw [c24b0] | (simp only [i64_w, i32_w]; rw [c24b0]) | skip)
            have H' := Aside0.mk H
            clear H
            go_wp2
            go_meet
            case rel => exact ⟨_, (wrap64 (x7_1 + 1)), (x8_1), (0), (t36012), (x36003000_1), (x36003001_1), (x36003002_1), (.slice Ao21 x36003001_1.length co21), (.slice Ao22 x36003002_1.length co22), (by first | rfl | (simp; done) | (simp [*]; done)), (by first | rfl | (simp; done) | (simp [*]; done)), (by first | rfl | (simp; done) | (simp [*]; done)), H', ⟨by have := HK1.out; first | omega | exact Nat.le_refl _⟩, ⟨Kd.R_ext (Kd.R_mono HO_36003001.out (fun _ hk => ⟨hk, hk⟩))⟩, ⟨Kd.R_ext (Kd.R_mono HO_36003002.out (fun _ hk => ⟨hk, hk⟩))⟩, ⟨Kd.R_ext (Kd.R_mono HO_36003001.out (fun _ hk => ⟨hk, hk⟩))⟩, ⟨Kd.R_ext (Kd.R_mono HO_36003002.out (fun _ hk => ⟨hk, hk⟩))⟩, ⟨blk_ext BK36001.out⟩, ⟨blk_ext BK36002.out⟩, ⟨blk_ext BK36010.out⟩, ⟨by repeat (first | (with_reducible first | exact HI36007.out | apply IsS79.alloc | apply IsS79.drewN | apply IsS79.drew | apply IsS79.set_1 | refine IsS79.far ?_ NB36007_36001.out _ | refine IsS79.far ?_ NB36007_36002.out _ | refine IsS79.far ?_ NB36007_36010.out _) | exact HI36007.out)⟩, ⟨by repeat (first | (with_reducible first | exact HB.out | apply bA | apply bN | apply b1 | refine bS ?_ (IsS79.ge HI36007.out) | refine bS ?_ GE36001.out | refine bS ?_ GE36002.out | refine bS ?_ GE36010.out) | exact HB.out)⟩⟩
          · rw [if_neg c24] at H
            have c24b0 : (t36011 == 0) = false := beq_eq_false_iff_ne.mpr c24
            have c24b1 : (t36011 != 0) = true := bne_iff_ne.mpr c24
            (first | rw [c24b0] | (simp only [i64_w, i32_w]; rw [c24b0]) | skip)
            have HC25 := Aside0.mk H
            clear H
            go_upto_if 43 with (fail)
            go_cut [43] (fun v43 wc => ∃ (kq : Nat) (x43_24 : Bool), v43 = .bool x43_24 ∧ Aside0 (customslaw38_play.j1 kq x7_1 x8_1 0 t36011 x43_24 x36003000_1 x36003001_1 x36003002_1 t36005 t36012 x36003000_1 x36003001_1 x36003002_1 = some (r1, r2, r3, r4, r5, r6)) ∧ Aside0 (kq ≤ k1) ∧ Aside0 (Kd.R (Kd.int .i64) 3 wc w.heap.size (fun k_ => some k_ ≠ ((.slice Ao22 x36003002_1.length co22) : Value).ownBlock ∧ some k_ ≠ ((.slice Ao22 x36003002_1.length co22) : Value).ownBlock) (.slice Ao21 x36003001_1.length co21) x36003001_1) ∧ Aside0 (Kd.R (Kd.int .i64) 3 wc w.heap.size (fun k_ => some k_ ≠ ((.slice Ao21 x36003001_1.length co21) : Value).ownBlock ∧ some k_ ≠ ((.slice Ao21 x36003001_1.length co21) : Value).ownBlock) (.slice Ao22 x36003002_1.length co22) x36003002_1) ∧ Aside0 (Kd.R (Kd.int .i64) 3 wc w.heap.size (fun k_ => some k_ ≠ ((.slice Ao22 x36003002_1.length co22) : Value).ownBlock ∧ some k_ ≠ ((.slice Ao22 x36003002_1.length co22) : Value).ownBlock) (.slice Ao21 x36003001_1.length co21) x36003001_1) ∧ Aside0 (Kd.R (Kd.int .i64) 3 wc w.heap.size (fun k_ => some k_ ≠ ((.slice Ao21 x36003001_1.length co21) : Value).ownBlock ∧ some k_ ≠ ((.slice Ao21 x36003001_1.length co21) : Value).ownBlock) (.slice Ao22 x36003002_1.length co22) x36003002_1) ∧ Aside0 (wc.heap[gb36001]? = some (.cells #[.int .i64 x36002000_1, (.slice none 0 0), (.slice none 0 0)] 44 (0, 0))) ∧ Aside0 (wc.heap[gb36002]? = some (.cells #[.int .i64 x36003000_1, (.slice Ao21 x36003001_1.length co21), (.slice Ao22 x36003002_1.length co22)] 44 (0, 0))) ∧ Aside0 (wc.heap[gb36010]? = some (.cells #[.int .i64 x36003000_1, (.slice Ao21 x36003001_1.length co21), (.slice Ao22 x36003002_1.length co22)] 44 (0, 0))) ∧ Aside0 (IsS79 w wc g36007 t36005 t36012) ∧ Aside0 (Below w.heap.size w wc))
            case first =>
              have H := HC25.out
              clear HC25
              by_cases c26 : t36011 = 1
              · rw [if_pos c26] at H
                have c26b0 : (t36011 == 1) = true := beq_iff_eq.mpr c26
                have c26b1 : (t36011 != 1) = false := bne_eq_false_iff_eq.mpr c26
                clear c26
                (first | rw [c26b0] | (simp only [i64_w, i32_w]; rw [c26b0]) | skip)
                have H' := Aside0.mk H
                clear H
                go_wp2
                go_meet
                case rel => exact ⟨_, ((t36011 == 1)), (by first | rfl | (simp; done) | (simp [*]; done)), H', ⟨by have := HK1.out; first | omega | exact Nat.le_refl _⟩, ⟨Kd.R_ext (Kd.R_mono HO_36003001.out (fun _ hk => ⟨hk, hk⟩))⟩, ⟨Kd.R_ext (Kd.R_mono HO_36003002.out (fun _ hk => ⟨hk, hk⟩))⟩, ⟨Kd.R_ext (Kd.R_mono HO_36003001.out (fun _ hk => ⟨hk, hk⟩))⟩, ⟨Kd.R_ext (Kd.R_mono HO_36003002.out (fun _ hk => ⟨hk, hk⟩))⟩, ⟨blk_ext BK36001.out⟩, ⟨blk_ext BK36002.out⟩, ⟨blk_ext BK36010.out⟩, ⟨by repeat (first | (with_reducible first | exact HI36007.out | apply IsS79.alloc | apply IsS79.drewN | apply IsS79.drew | apply IsS79.set_1 | refine IsS79.far ?_ NB36007_36001.out _ | refine IsS79.far ?_ NB36007_36002.out _ | refine IsS79.far ?_ NB36007_36010.out _) | exact HI36007.out)⟩, ⟨by repeat (first | (with_reducible first | exact HB.out | apply bA | apply bN | apply b1 | refine bS ?_ (IsS79.ge HI36007.out) | refine bS ?_ GE36001.out | refine bS ?_ GE36002.out | refine bS ?_ GE36010.out) | exact HB.out)⟩⟩
              · rw [if_neg c26] at H
                have c26b0 : (t36011 == 1) = false := beq_eq_false_iff_ne.mpr c26
                have c26b1 : (t36011 != 1) = true := bne_iff_ne.mpr c26
                (first | rw [c26b0] | (simp only [i64_w, i32_w]; rw [c26b0]) | skip)
                have H' := Aside0.mk H
                clear H
                go_wp2
                go_meet
                case rel => exact ⟨_, ((t36011 == 2)), (by first | rfl | (simp; done) | (simp [*]; done)), H', ⟨by have := HK1.out; first | omega | exact Nat.le_refl _⟩, ⟨Kd.R_ext (Kd.R_mono HO_36003001.out (fun _ hk => ⟨hk, hk⟩))⟩, ⟨Kd.R_ext (Kd.R_mono HO_36003002.out (fun _ hk => ⟨hk, hk⟩))⟩, ⟨Kd.R_ext (Kd.R_mono HO_36003001.out (fun _ hk => ⟨hk, hk⟩))⟩, ⟨Kd.R_ext (Kd.R_mono HO_36003002.out (fun _ hk => ⟨hk, hk⟩))⟩, ⟨blk_ext BK36001.out⟩, ⟨blk_ext BK36002.out⟩, ⟨blk_ext BK36010.out⟩, ⟨by repeat (first | (with_reducible first | exact HI36007.out | apply IsS79.alloc | apply IsS79.drewN | apply IsS79.drew | apply IsS79.set_1 | refine IsS79.far ?_ NB36007_36001.out _ | refine IsS79.far ?_ NB36007_36002.out _ | refine IsS79.far ?_ NB36007_36010.out _) | exact HI36007.out)⟩, ⟨by repeat (first | (with_reducible first | exact HB.out | apply bA | apply bN | apply b1 | refine bS ?_ (IsS79.ge HI36007.out) | refine bS ?_ GE36001.out | refine bS ?_ GE36002.out | refine bS ?_ GE36010.out) | exact HB.out)⟩⟩
            case rest =>
              clear HC25
              try clear c1
              try clear c2
              try clear p2
              try clear c3
              try clear c6
              try clear p6
              try clear c9
              try clear c13
              try clear c14
              try clear c17
              try clear c18
              try clear c19
              try clear c24
              try clear c24b0
              try clear c24b1
              try clear c26
              try clear c26b0
              try clear c26b1
              try clear hcz15_0
              try clear hcz15_1
              try clear hcz15_2
              try clear hcz20_0
              try clear hcz20_1
              try clear hcz20_2
              try clear hfz15_0
              try clear hfz15_1
              try clear hfz15_2
              try clear hfz20_0
              try clear hfz20_1
              try clear hfz20_2
              try clear p2
              obtain ⟨kq, x43_24, rfl, HA, HJ24, HO_36003001, HO_36003002, HO_36011001, HO_36011002, BK36001, BK36002, BK36010, HI36007, HB⟩ := hcut
              cases kq with
              | zero => exact absurd HA.out (by simp [customslaw38_play.j1])
              | succ kj24 =>
                have H := HA.out
                clear HA
                simp only [customslaw38_play.j1] at H
                by_cases c27 : x43_24 = true
                · subst c27
                  have H1 : (if (x36003001_1.length : Int) < 100 then ((channel_Transmit.f kj24 x36003000_1 x36003001_1 x36003002_1 x7_1).bind fun bt36013 => (customslaw38_play.j3 kj24 x7_1 x8_1 bt36013.2.2.2 x36003000_1 x36003001_1 x36003002_1 t36005 t36012 bt36013.1 bt36013.2.1 bt36013.2.2.1)) else (customslaw38_play.j3 kj24 x7_1 x8_1 0 x36003000_1 x36003001_1 x36003002_1 t36005 t36012 x36003000_1 x36003001_1 x36003002_1)) = some (r1, r2, r3, r4, r5, r6) := by rw [if_pos rfl] at H; exact H
                  clear H
                  have H := H1
                  clear H1
                  by_cases c28 : (x36003001_1.length : Int) < 100
                  · rw [if_pos c28] at H
                    have c28b0 : decide ((x36003001_1.length : Int) < 100) = true := decide_eq_true c28
                    have c28b1 : decide (x36003001_1.length < 100) = true := decide_eq_true (by omega)
                    clear c28
                    replace H := Option.bind_eq_some_iff.mp H
                    obtain ⟨⟨t36013, t36014, t36017, t36020⟩, A290, H⟩ := H
                    replace H : (customslaw38_play.j3 kj24 x7_1 x8_1 t36020 x36003000_1 x36003001_1 x36003002_1 t36005 t36012 t36013 t36014 t36017) = some (r1, r2, r3, r4, r5, r6) := H
                    have A29 := Aside0.mk A290
                    clear A290
                    have H' := Aside0.mk H
                    clear H
                    have hnb30 := NB36002_36001.out
                    have hnc30 := NB36001_36002.out
                    have hnb31 := NB36002_36010.out
                    have hnc31 := NB36010_36002.out
                    have hnb32 := NB36002_36007.out
                    have hnc32 := NB36007_36002.out
                    have hcz33_0 : wc.cell? ⟨gb36002, 0, none⟩ = some (.int .i64 x36003000_1) := (blk_cell BK36002.out 0).trans rfl
                    have hcz33_1 : wc.cell? ⟨gb36002, 1, none⟩ = some (.slice Ao21 x36003001_1.length co21) := (blk_cell BK36002.out 1).trans rfl
                    have hcz33_2 : wc.cell? ⟨gb36002, 2, none⟩ = some (.slice Ao22 x36003002_1.length co22) := (blk_cell BK36002.out 2).trans rfl
                    have hfz33_0 := blk_frozen BK36002.out 0
                    have hfz33_1 := blk_frozen BK36002.out 1
                    have hfz33_2 := blk_frozen BK36002.out 2
                    go_wp2_with (first | ((with_reducible refine gate_callee (f := 37) rfl ?_); refine goesL_ (some 53) rfl rfl Try.func37 (by kernel_rfl) rfl #[.agg #[.int .i64 x36003000_1, .slice Ao21 x36003001_1.length co21, .slice Ao22 x36003002_1.length co22], .int .i64 x7_1] rfl (by (try simp only [List.map_toArray, List.map_cons, List.map_nil]); first | done | rfl | (simp only [List.length_drop, List.length_take]; rfl)) ?_; (with_reducible refine (channel_Transmit.calls kj24 x36003000_1 _ _ x36003001_1 _ _ x36003002_1 x7_1 t36013 t36014 t36017 t36020 _ ?side1 ?side2 ?side3 ?side4 A29.out).mono ?_); (case side1 => exact Kd.C_ext (Kd.R_reads' HO_36003001.out).2.2); (case side2 => exact (Kd.R_reads' HO_36003001.out).2.1); (case side3 => exact Kd.C_ext (Kd.R_reads' HO_36003002.out).2.2); (case side4 => exact (Kd.R_reads' HO_36003002.out).2.1); rintro e w34 ⟨v36015, v36018, rfl, ho0, ho1, hb⟩; refine ⟨_, rfl, ?_⟩; have n4_ := Aside0.mk (Kd.R_lower (Kd.R_new' (Kd.R_new' (Kd.R_new' (Kd.R_new' ho0 (Kd.R_lt (Kd.R_ext HO_36003001.out))) (Kd.R_lt (Kd.R_ext HO_36003002.out))) (Kd.R_lt (Kd.R_ext HO_36011001.out))) (Kd.R_lt (Kd.R_ext HO_36011002.out))) (below_size (by repeat (first | (with_reducible first | exact HB.out | apply bA | apply bN | apply b1 | refine bS ?_ (IsS79.ge HI36007.out) | refine bS ?_ GE36001.out | refine bS ?_ GE36002.out | refine bS ?_ GE36010.out) | exact HB.out)))); have n5_ := Aside0.mk (Kd.R_lower (Kd.R_new' (Kd.R_new' (Kd.R_new' (Kd.R_new' ho1 (Kd.R_lt (Kd.R_ext HO_36003001.out))) (Kd.R_lt (Kd.R_ext HO_36003002.out))) (Kd.R_lt (Kd.R_ext HO_36011001.out))) (Kd.R_lt (Kd.R_ext HO_36011002.out))) (below_size (by repeat (first | (with_reducible first | exact HB.out | apply bA | apply bN | apply b1 | refine bS ?_ (IsS79.ge HI36007.out) | refine bS ?_ GE36001.out | refine bS ?_ GE36002.out | refine bS ?_ GE36010.out) | exact HB.out)))); have n9_ := Aside0.mk (IsS79.below (by repeat (first | (with_reducible first | exact HI36007.out | apply IsS79.alloc | apply IsS79.drewN | apply IsS79.drew | apply IsS79.set_1 | refine IsS79.far ?_ NB36007_36001.out _ | refine IsS79.far ?_ NB36007_36002.out _ | refine IsS79.far ?_ NB36007_36010.out _) | exact HI36007.out)) hb); have n10_ := Aside0.mk (below_step (by repeat (first | (with_reducible first | exact HB.out | apply bA | apply bN | apply b1 | refine bS ?_ (IsS79.ge HI36007.out) | refine bS ?_ GE36001.out | refine bS ?_ GE36002.out | refine bS ?_ GE36010.out) | exact HB.out)) hb); clear HI36007; clear HB; have HO36016 := n4_; have HO36019 := n5_; have HI36007 := n9_; have HB := n10_; replace HO_36003001 := tdR2 HO_36003001 hb (Kd.R_base ho0) (Kd.R_base ho1); replace HO_36003002 := tdR2 HO_36003002 hb (Kd.R_base ho0) (Kd.R_base ho1); replace HO_36011001 := tdR2 HO_36011001 hb (Kd.R_base ho0) (Kd.R_base ho1); replace HO_36011002 := tdR2 HO_36011002 hb (Kd.R_base ho0) (Kd.R_base ho1); replace BK36001 := mvB BK36001 hb; replace BK36002 := mvB BK36002 hb; replace BK36010 := mvB BK36010 hb; clear n4_ n5_ n9_ n10_; (try clear hb); (try clear hb2); (try clear hk); (try clear hi); (try clear ho0); (try clear ho1); have hnb35 := NB36010_36001.out; have hnc35 := NB36001_36010.out; have hnb36 := NB36010_36007.out; have hnc36 := NB36007_36010.out; have hcz37_0 : w34.cell? ⟨gb36010, 0, none⟩ = some (.int .i64 x36003000_1) := (blk_cell BK36010.out 0).trans rfl; have hcz37_1 : w34.cell? ⟨gb36010, 1, none⟩ = some (.slice Ao21 x36003001_1.length co21) := (blk_cell BK36010.out 1).trans rfl; have hcz37_2 : w34.cell? ⟨gb36010, 2, none⟩ = some (.slice Ao22 x36003002_1.length co22) := (blk_cell BK36010.out 2).trans rfl; have hfz37_0 := blk_frozen BK36010.out 0; have hfz37_1 := blk_frozen BK36010.out 1; have hfz37_2 := blk_frozen BK36010.out 2; obtain ⟨Ao38, co38, eo38⟩ := Kd.R_slice HO36016.out; subst eo38; obtain ⟨Ao39, co39, eo39⟩ := Kd.R_slice HO36019.out; subst eo39))
                    go_meet
                    case rel => exact ⟨_, (x7_1), (x8_1), (t36020), (t36012), (t36013), (t36014), (t36017), (.slice Ao38 t36014.length co38), (.slice Ao39 t36017.length co39), (by first | rfl | (simp; done) | (simp [*]; done)), (by first | rfl | (simp; done) | (simp [*]; done)), (by first | rfl | (simp; done) | (simp [*]; done)), H', ⟨by have := HK1.out; have := HJ24.out; first | omega | exact Nat.le_refl _⟩, ⟨Kd.R_ext (Kd.R_mono (Kd.R_far (p := ⟨gb36010, 2, none⟩) (Kd.R_far (p := ⟨gb36010, 1, none⟩) (Kd.R_far (p := ⟨gb36010, 0, none⟩) (Kd.R_types HO_36003001.out BK36010.out (by decide)) (fun _ hk => hk.2) (.int .i64 t36013)) (fun _ hk => hk.2) (.slice Ao38 t36014.length co38)) (fun _ hk => hk.2) (.slice Ao39 t36017.length co39)) (fun _ hk => ⟨hk.1.1.1.1, hk.1.2⟩))⟩, ⟨Kd.R_ext (Kd.R_mono (Kd.R_far (p := ⟨gb36010, 2, none⟩) (Kd.R_far (p := ⟨gb36010, 1, none⟩) (Kd.R_far (p := ⟨gb36010, 0, none⟩) (Kd.R_types HO_36003002.out BK36010.out (by decide)) (fun _ hk => hk.2) (.int .i64 t36013)) (fun _ hk => hk.2) (.slice Ao38 t36014.length co38)) (fun _ hk => hk.2) (.slice Ao39 t36017.length co39)) (fun _ hk => ⟨hk.1.1.1.1, hk.1.1.2⟩))⟩, ⟨Kd.R_ext (Kd.R_mono (Kd.R_far (p := ⟨gb36010, 2, none⟩) (Kd.R_far (p := ⟨gb36010, 1, none⟩) (Kd.R_far (p := ⟨gb36010, 0, none⟩) (Kd.R_types HO36016.out BK36010.out (by decide)) (fun _ hk => hk.2) (.int .i64 t36013)) (fun _ hk => hk.2) (.slice Ao38 t36014.length co38)) (fun _ hk => hk.2) (.slice Ao39 t36017.length co39)) (fun _ hk => ⟨hk.1.1.1.2, hk.1.1.1.1.1⟩))⟩, ⟨Kd.R_ext (Kd.R_mono (Kd.R_far (p := ⟨gb36010, 2, none⟩) (Kd.R_far (p := ⟨gb36010, 1, none⟩) (Kd.R_far (p := ⟨gb36010, 0, none⟩) (Kd.R_types HO36019.out BK36010.out (by decide)) (fun _ hk => hk.2) (.int .i64 t36013)) (fun _ hk => hk.2) (.slice Ao38 t36014.length co38)) (fun _ hk => hk.2) (.slice Ao39 t36017.length co39)) (fun _ hk => ⟨hk.1.1.1.1.2, hk.1.1.1.1.1⟩))⟩, ⟨blk_extC BK36001.out⟩, ⟨blk_extC BK36002.out⟩, ⟨by (with_reducible repeat (first | refine blk_drewN ?_ _ | refine blk_drew ?_ | refine blk_alloc ?_ _)); refine blk_put (cs := #[.int .i64 t36013, .slice Ao38 t36014.length co38, .slice Ao22 x36003002_1.length co22]) ?_ 2 _ rfl; (with_reducible repeat (first | refine blk_drewN ?_ _ | refine blk_drew ?_ | refine blk_alloc ?_ _)); refine blk_put (cs := #[.int .i64 t36013, .slice Ao21 x36003001_1.length co21, .slice Ao22 x36003002_1.length co22]) ?_ 1 _ rfl; (with_reducible repeat (first | refine blk_drewN ?_ _ | refine blk_drew ?_ | refine blk_alloc ?_ _)); refine blk_put (cs := #[.int .i64 x36003000_1, .slice Ao21 x36003001_1.length co21, .slice Ao22 x36003002_1.length co22]) ?_ 0 _ rfl; exact blk_ext BK36010.out⟩, ⟨by repeat (first | (with_reducible first | exact HI36007.out | apply IsS79.alloc | apply IsS79.drewN | apply IsS79.drew | apply IsS79.set_1 | refine IsS79.far ?_ NB36007_36001.out _ | refine IsS79.far ?_ NB36007_36002.out _ | refine IsS79.far ?_ NB36007_36010.out _) | exact HI36007.out)⟩, ⟨by repeat (first | (with_reducible first | exact HB.out | apply bA | apply bN | apply b1 | refine bS ?_ (IsS79.ge HI36007.out) | refine bS ?_ GE36001.out | refine bS ?_ GE36002.out | refine bS ?_ GE36010.out) | exact HB.out)⟩⟩
                  · rw [if_neg c28] at H
                    have c28b0 : decide ((x36003001_1.length : Int) < 100) = false := decide_eq_false c28
                    have c28b1 : decide (x36003001_1.length < 100) = false := decide_eq_false (by omega)
                    clear c28
                    have H' := Aside0.mk H
                    clear H
                    have hnb40 := NB36002_36001.out
                    have hnc40 := NB36001_36002.out
                    have hnb41 := NB36002_36010.out
                    have hnc41 := NB36010_36002.out
                    have hnb42 := NB36002_36007.out
                    have hnc42 := NB36007_36002.out
                    have hcz43_0 : wc.cell? ⟨gb36002, 0, none⟩ = some (.int .i64 x36003000_1) := (blk_cell BK36002.out 0).trans rfl
                    have hcz43_1 : wc.cell? ⟨gb36002, 1, none⟩ = some (.slice Ao21 x36003001_1.length co21) := (blk_cell BK36002.out 1).trans rfl
                    have hcz43_2 : wc.cell? ⟨gb36002, 2, none⟩ = some (.slice Ao22 x36003002_1.length co22) := (blk_cell BK36002.out 2).trans rfl
                    have hfz43_0 := blk_frozen BK36002.out 0
                    have hfz43_1 := blk_frozen BK36002.out 1
                    have hfz43_2 := blk_frozen BK36002.out 2
                    go_wp2
                    go_meet
                    case rel => exact ⟨_, (x7_1), (x8_1), (0), (t36012), (x36003000_1), (x36003001_1), (x36003002_1), (.slice Ao21 x36003001_1.length co21), (.slice Ao22 x36003002_1.length co22), (by first | rfl | (simp; done) | (simp [*]; done)), (by first | rfl | (simp; done) | (simp [*]; done)), (by first | rfl | (simp; done) | (simp [*]; done)), H', ⟨by have := HK1.out; have := HJ24.out; first | omega | exact Nat.le_refl _⟩, ⟨Kd.R_ext HO_36003001.out⟩, ⟨Kd.R_ext HO_36003002.out⟩, ⟨Kd.R_ext HO_36011001.out⟩, ⟨Kd.R_ext HO_36011002.out⟩, ⟨blk_ext BK36001.out⟩, ⟨blk_ext BK36002.out⟩, ⟨blk_ext BK36010.out⟩, ⟨by repeat (first | (with_reducible first | exact HI36007.out | apply IsS79.alloc | apply IsS79.drewN | apply IsS79.drew | apply IsS79.set_1 | refine IsS79.far ?_ NB36007_36001.out _ | refine IsS79.far ?_ NB36007_36002.out _ | refine IsS79.far ?_ NB36007_36010.out _) | exact HI36007.out)⟩, ⟨by repeat (first | (with_reducible first | exact HB.out | apply bA | apply bN | apply b1 | refine bS ?_ (IsS79.ge HI36007.out) | refine bS ?_ GE36001.out | refine bS ?_ GE36002.out | refine bS ?_ GE36010.out) | exact HB.out)⟩⟩
                · replace c27 := Bool.eq_false_iff.mpr c27
                  subst c27
                  have H1 : (if t36011 = 3 then (customslaw38_play.j2 kj24 x7_1 x8_1 t36011 (t36011 == 3) x36003000_1 x36003001_1 x36003002_1 t36005 t36012) else (customslaw38_play.j2 kj24 x7_1 x8_1 t36011 (t36011 == 4) x36003000_1 x36003001_1 x36003002_1 t36005 t36012)) = some (r1, r2, r3, r4, r5, r6) := by rw [if_neg (show ¬ (false = true) by decide)] at H; exact H
                  clear H
                  have H := H1
                  clear H1
                  have HC44 := Aside0.mk H
                  clear H
                  go_upto_if 56 with (fail)
                  go_cut [56] (fun v56 wc => ∃ (kq : Nat) (x56_43 : Bool), v56 = .bool x56_43 ∧ Aside0 (customslaw38_play.j2 kq x7_1 x8_1 t36011 x56_43 x36003000_1 x36003001_1 x36003002_1 t36005 t36012 = some (r1, r2, r3, r4, r5, r6)) ∧ Aside0 (kq ≤ kj24) ∧ Aside0 (Kd.R (Kd.int .i64) 3 wc w.heap.size (fun k_ => some k_ ≠ ((.slice Ao22 x36003002_1.length co22) : Value).ownBlock ∧ some k_ ≠ ((.slice Ao22 x36003002_1.length co22) : Value).ownBlock) (.slice Ao21 x36003001_1.length co21) x36003001_1) ∧ Aside0 (Kd.R (Kd.int .i64) 3 wc w.heap.size (fun k_ => some k_ ≠ ((.slice Ao21 x36003001_1.length co21) : Value).ownBlock ∧ some k_ ≠ ((.slice Ao21 x36003001_1.length co21) : Value).ownBlock) (.slice Ao22 x36003002_1.length co22) x36003002_1) ∧ Aside0 (Kd.R (Kd.int .i64) 3 wc w.heap.size (fun k_ => some k_ ≠ ((.slice Ao22 x36003002_1.length co22) : Value).ownBlock ∧ some k_ ≠ ((.slice Ao22 x36003002_1.length co22) : Value).ownBlock) (.slice Ao21 x36003001_1.length co21) x36003001_1) ∧ Aside0 (Kd.R (Kd.int .i64) 3 wc w.heap.size (fun k_ => some k_ ≠ ((.slice Ao21 x36003001_1.length co21) : Value).ownBlock ∧ some k_ ≠ ((.slice Ao21 x36003001_1.length co21) : Value).ownBlock) (.slice Ao22 x36003002_1.length co22) x36003002_1) ∧ Aside0 (wc.heap[gb36001]? = some (.cells #[.int .i64 x36002000_1, (.slice none 0 0), (.slice none 0 0)] 44 (0, 0))) ∧ Aside0 (wc.heap[gb36002]? = some (.cells #[.int .i64 x36003000_1, (.slice Ao21 x36003001_1.length co21), (.slice Ao22 x36003002_1.length co22)] 44 (0, 0))) ∧ Aside0 (wc.heap[gb36010]? = some (.cells #[.int .i64 x36003000_1, (.slice Ao21 x36003001_1.length co21), (.slice Ao22 x36003002_1.length co22)] 44 (0, 0))) ∧ Aside0 (IsS79 w wc g36007 t36005 t36012) ∧ Aside0 (Below w.heap.size w wc))
                  case first =>
                    have H := HC44.out
                    clear HC44
                    by_cases c45 : t36011 = 3
                    · rw [if_pos c45] at H
                      have c45b0 : (t36011 == 3) = true := beq_iff_eq.mpr c45
                      have c45b1 : (t36011 != 3) = false := bne_eq_false_iff_eq.mpr c45
                      clear c45
                      (first | rw [c45b0] | (simp only [i64_w, i32_w]; rw [c45b0]) | skip)
                      have H' := Aside0.mk H
                      clear H
                      go_wp2
                      go_meet
                      case rel => exact ⟨_, ((t36011 == 3)), (by first | rfl | (simp; done) | (simp [*]; done)), H', ⟨by have := HK1.out; have := HJ24.out; first | omega | exact Nat.le_refl _⟩, ⟨Kd.R_ext HO_36003001.out⟩, ⟨Kd.R_ext HO_36003002.out⟩, ⟨Kd.R_ext HO_36011001.out⟩, ⟨Kd.R_ext HO_36011002.out⟩, ⟨blk_ext BK36001.out⟩, ⟨blk_ext BK36002.out⟩, ⟨blk_ext BK36010.out⟩, ⟨by repeat (first | (with_reducible first | exact HI36007.out | apply IsS79.alloc | apply IsS79.drewN | apply IsS79.drew | apply IsS79.set_1 | refine IsS79.far ?_ NB36007_36001.out _ | refine IsS79.far ?_ NB36007_36002.out _ | refine IsS79.far ?_ NB36007_36010.out _) | exact HI36007.out)⟩, ⟨by repeat (first | (with_reducible first | exact HB.out | apply bA | apply bN | apply b1 | refine bS ?_ (IsS79.ge HI36007.out) | refine bS ?_ GE36001.out | refine bS ?_ GE36002.out | refine bS ?_ GE36010.out) | exact HB.out)⟩⟩
                    · rw [if_neg c45] at H
                      have c45b0 : (t36011 == 3) = false := beq_eq_false_iff_ne.mpr c45
                      have c45b1 : (t36011 != 3) = true := bne_iff_ne.mpr c45
                      (first | rw [c45b0] | (simp only [i64_w, i32_w]; rw [c45b0]) | skip)
                      have H' := Aside0.mk H
                      clear H
                      go_wp2
                      go_meet
                      case rel => exact ⟨_, ((t36011 == 4)), (by first | rfl | (simp; done) | (simp [*]; done)), H', ⟨by have := HK1.out; have := HJ24.out; first | omega | exact Nat.le_refl _⟩, ⟨Kd.R_ext HO_36003001.out⟩, ⟨Kd.R_ext HO_36003002.out⟩, ⟨Kd.R_ext HO_36011001.out⟩, ⟨Kd.R_ext HO_36011002.out⟩, ⟨blk_ext BK36001.out⟩, ⟨blk_ext BK36002.out⟩, ⟨blk_ext BK36010.out⟩, ⟨by repeat (first | (with_reducible first | exact HI36007.out | apply IsS79.alloc | apply IsS79.drewN | apply IsS79.drew | apply IsS79.set_1 | refine IsS79.far ?_ NB36007_36001.out _ | refine IsS79.far ?_ NB36007_36002.out _ | refine IsS79.far ?_ NB36007_36010.out _) | exact HI36007.out)⟩, ⟨by repeat (first | (with_reducible first | exact HB.out | apply bA | apply bN | apply b1 | refine bS ?_ (IsS79.ge HI36007.out) | refine bS ?_ GE36001.out | refine bS ?_ GE36002.out | refine bS ?_ GE36010.out) | exact HB.out)⟩⟩
                  case rest =>
                    clear HC44
                    try clear c1
                    try clear c2
                    try clear p2
                    try clear c3
                    try clear c4
                    try clear c6
                    try clear p6
                    try clear c9
                    try clear c13
                    try clear c14
                    try clear c17
                    try clear c18
                    try clear c19
                    try clear c24
                    try clear c24b0
                    try clear c24b1
                    try clear c26
                    try clear c26b0
                    try clear c26b1
                    try clear c27
                    try clear c28
                    try clear c28b0
                    try clear c28b1
                    try clear c30
                    try clear c31
                    try clear c32
                    try clear c35
                    try clear c36
                    try clear c37
                    try clear c40
                    try clear c41
                    try clear c42
                    try clear c45
                    try clear c45b0
                    try clear c45b1
                    try clear hcz15_0
                    try clear hcz15_1
                    try clear hcz15_2
                    try clear hcz20_0
                    try clear hcz20_1
                    try clear hcz20_2
                    try clear hcz33_0
                    try clear hcz33_1
                    try clear hcz33_2
                    try clear hcz37_0
                    try clear hcz37_1
                    try clear hcz37_2
                    try clear hcz43_0
                    try clear hcz43_1
                    try clear hcz43_2
                    try clear hfz15_0
                    try clear hfz15_1
                    try clear hfz15_2
                    try clear hfz20_0
                    try clear hfz20_1
                    try clear hfz20_2
                    try clear hfz33_0
                    try clear hfz33_1
                    try clear hfz33_2
                    try clear hfz37_0
                    try clear hfz37_1
                    try clear hfz37_2
                    try clear hfz43_0
                    try clear hfz43_1
                    try clear hfz43_2
                    try clear p2
                    try clear p6
                    obtain ⟨kq, x56_43, rfl, HA, HJ43, HO_36003001, HO_36003002, HO_36011001, HO_36011002, BK36001, BK36002, BK36010, HI36007, HB⟩ := hcut
                    cases kq with
                    | zero => exact absurd HA.out (by simp [customslaw38_play.j2])
                    | succ kj43 =>
                      have H := HA.out
                      clear HA
                      simp only [customslaw38_play.j2] at H
                      by_cases c46 : x56_43 = true
                      · subst c46
                        have H1 : ((customsmade_Source_Next.f t36005 t36012 20).bind fun bt36021 => ((channel_Deliver.f kj43 x36003000_1 x36003001_1 x36003002_1 bt36021.1 x8_1).bind fun bt36023 => (if bt36023.2.2.2.2 = 0 then (if bt36023.2.2.2.1 = (wrap64 (x8_1 + 1)) then (customslaw38_play.j3 kj43 x7_1 bt36023.2.2.2.1 bt36023.2.2.2.2 x36003000_1 x36003001_1 x36003002_1 t36005 bt36021.2 bt36023.1 bt36023.2.1 bt36023.2.2.1) else (customslaw38_play.j3 kj43 x7_1 x8_1 bt36023.2.2.2.2 x36003000_1 x36003001_1 x36003002_1 t36005 bt36021.2 bt36023.1 bt36023.2.1 bt36023.2.2.1)) else (customslaw38_play.j3 kj43 x7_1 x8_1 bt36023.2.2.2.2 x36003000_1 x36003001_1 x36003002_1 t36005 bt36021.2 bt36023.1 bt36023.2.1 bt36023.2.2.1)))) = some (r1, r2, r3, r4, r5, r6) := by rw [if_pos rfl] at H; exact H
                        clear H
                        have H := H1
                        clear H1
                        replace H := Option.bind_eq_some_iff.mp H
                        obtain ⟨⟨t36021, t36022⟩, A470, H⟩ := H
                        replace H : ((channel_Deliver.f kj43 x36003000_1 x36003001_1 x36003002_1 t36021 x8_1).bind fun bt36023 => (if bt36023.2.2.2.2 = 0 then (if bt36023.2.2.2.1 = (wrap64 (x8_1 + 1)) then (customslaw38_play.j3 kj43 x7_1 bt36023.2.2.2.1 bt36023.2.2.2.2 x36003000_1 x36003001_1 x36003002_1 t36005 t36022 bt36023.1 bt36023.2.1 bt36023.2.2.1) else (customslaw38_play.j3 kj43 x7_1 x8_1 bt36023.2.2.2.2 x36003000_1 x36003001_1 x36003002_1 t36005 t36022 bt36023.1 bt36023.2.1 bt36023.2.2.1)) else (customslaw38_play.j3 kj43 x7_1 x8_1 bt36023.2.2.2.2 x36003000_1 x36003001_1 x36003002_1 t36005 t36022 bt36023.1 bt36023.2.1 bt36023.2.2.1))) = some (r1, r2, r3, r4, r5, r6) := H
                        have A47 := Aside0.mk A470
                        clear A470
                        replace H := Option.bind_eq_some_iff.mp H
                        obtain ⟨⟨t36023, t36024, t36027, t36030, t36031⟩, A480, H⟩ := H
                        replace H : (if t36031 = 0 then (if t36030 = (wrap64 (x8_1 + 1)) then (customslaw38_play.j3 kj43 x7_1 t36030 t36031 x36003000_1 x36003001_1 x36003002_1 t36005 t36022 t36023 t36024 t36027) else (customslaw38_play.j3 kj43 x7_1 x8_1 t36031 x36003000_1 x36003001_1 x36003002_1 t36005 t36022 t36023 t36024 t36027)) else (customslaw38_play.j3 kj43 x7_1 x8_1 t36031 x36003000_1 x36003001_1 x36003002_1 t36005 t36022 t36023 t36024 t36027)) = some (r1, r2, r3, r4, r5, r6) := H
                        have A48 := Aside0.mk A480
                        clear A480
                        by_cases c49 : t36031 = 0
                        · rw [if_pos c49] at H
                          have c49b0 : (t36031 == 0) = true := beq_iff_eq.mpr c49
                          have c49b1 : (t36031 != 0) = false := bne_eq_false_iff_eq.mpr c49
                          clear c49
                          by_cases c50 : t36030 = (wrap64 (x8_1 + 1))
                          · rw [if_pos c50] at H
                            have c50b0 : (t36030 == (wrap64 (x8_1 + 1))) = true := beq_iff_eq.mpr c50
                            have c50b1 : (t36030 != (wrap64 (x8_1 + 1))) = false := bne_eq_false_iff_eq.mpr c50
                            clear c50
                            have H' := Aside0.mk H
                            clear H
                            try go_wp2
                            have n0_ := Aside0.mk (Kd.R_drew HO_36003001.out)
                            have n1_ := Aside0.mk (Kd.R_drew HO_36003002.out)
                            have n2_ := Aside0.mk (Kd.R_drew HO_36011001.out)
                            have n3_ := Aside0.mk (Kd.R_drew HO_36011002.out)
                            have n4_ := Aside0.mk (blk_drew BK36001.out)
                            have n5_ := Aside0.mk (blk_drew BK36002.out)
                            have n6_ := Aside0.mk (blk_drew BK36010.out)
                            have n7_ := Aside0.mk (IsS79.drew HI36007.out)
                            have n8_ := Aside0.mk (below_drew1 HB.out)
                            clear HO_36003001
                            clear HO_36003002
                            clear HO_36011001
                            clear HO_36011002
                            clear BK36001
                            clear BK36002
                            clear BK36010
                            clear HI36007
                            clear HB
                            have HO_36003001 := n0_
                            have HO_36003002 := n1_
                            have HO_36011001 := n2_
                            have HO_36011002 := n3_
                            have BK36001 := n4_
                            have BK36002 := n5_
                            have BK36010 := n6_
                            have HI36007 := n7_
                            have HB := n8_
                            clear n0_ n1_ n2_ n3_ n4_ n5_ n6_ n7_ n8_
                            refine start_ (n := 12) (S := fun w' => w'.cell? ⟨gb36002, 0, none⟩ = some (.int .i64 x36003000_1) ∧ w'.cell? ⟨gb36002, 1, none⟩ = some (.slice Ao21 x36003001_1.length co21) ∧ w'.cell? ⟨gb36002, 2, none⟩ = some (.slice Ao22 x36003002_1.length co22)) (ds := []) #[false, false, false, false, false, false, false, false, false, false, false, false] (by kernel_rfl) rfl rfl ⟨(blk_cell BK36002.out 0).trans rfl, (blk_cell BK36002.out 1).trans rfl, (blk_cell BK36002.out 2).trans rfl⟩ (fun hHeld => ?_); refine with_tabW customslaw38_play.tab18 customslaw38_play.bits18 (fun HT_ HW_ => ?_)
                            generalize wc.drew = w51 at HO_36003001 HO_36003002 HO_36011001 HO_36011002 BK36001 BK36002 BK36010 HI36007 HB hHeld ⊢
                            refine pure_ (i := 1) (N := some 61) (v := ?_) (a' := ?_) #[false, true, false, false, false, false, false, false, false, false, false, false] rfl rfl (any_of HT_.out (by kernel_rfl)) (fun _ _ _ h => h) (Or.inl ⟨by rfl, ?_⟩) ?_ ?_
                            rotate_left
                            · intro w'
                              go_simp
                              with_reducible rfl
                            rotate_left
                            · simp only [Act.put, List.setIfInBounds_toArray, List.set_cons_zero, List.set_cons_succ, i64_w, i32_w]
                              rfl
                            refine pure_ (i := 3) (N := some 63) (v := ?_) (a' := ?_) #[false, true, false, true, false, false, false, false, false, false, false, false] rfl rfl (any_of HT_.out (by kernel_rfl)) (fun _ _ _ h => h) (Or.inl ⟨by rfl, ?_⟩) ?_ ?_
                            rotate_left
                            · intro w'
                              go_simp
                              with_reducible rfl
                            rotate_left
                            · simp only [Act.put, List.setIfInBounds_toArray, List.set_cons_zero, List.set_cons_succ, i64_w, i32_w]
                              rfl
                            refine take_ (i := 0) (N := some 60) (v := ?_) (a' := ?_) #[true, true, false, true, false, false, false, false, false, false, false, false] rfl rfl (take_ofW HT_.out HW_.out (by kernel_rfl)) (fun _ _ _ h => h) (Or.inl ⟨by rfl, ?_⟩) hHeld ?_ ?_
                            rotate_left
                            · rintro w' ⟨s0, s1, s2⟩
                              go_simp
                              with_reducible rfl
                            rotate_left
                            · simp only [Act.put, List.setIfInBounds_toArray, List.set_cons_zero, List.set_cons_succ, i64_w, i32_w]
                              rfl
                            refine one_ (i := 2) (N := some 62) #[true, true, true, true, false, false, false, false, false, false, false, false] rfl rfl (one_of HT_.out (by kernel_rfl)) (by decide) (fun K hK => ?_)
                            refine goes_ Try.func69 (by kernel_rfl) rfl #[.pointer (some ⟨g36007, 0, none⟩), .int .i64 20] (by rfl) rfl rfl (by (try simp only [List.map_toArray, List.map_cons, List.map_nil]); first | done | rfl | (simp only [List.length_drop, List.length_take]; rfl)) ?_
                            with_reducible refine (customsmade_Source_Next.calls g36007 t36005 t36012 20 t36021 t36022 w _ ?side1 ?side2 A47.out).mono ?_
                            (case side1 => repeat (first | (with_reducible first | exact HI36007.out | apply IsS79.alloc | apply IsS79.drewN | apply IsS79.drew | apply IsS79.set_1 | refine IsS79.far ?_ NB36007_36001.out _ | refine IsS79.far ?_ NB36007_36002.out _ | refine IsS79.far ?_ NB36007_36010.out _) | exact HI36007.out))
                            (case side2 => repeat (first | (with_reducible first | exact HB.out | apply bA | apply bN | apply b1 | refine bS ?_ (IsS79.ge HI36007.out) | refine bS ?_ GE36001.out | refine bS ?_ GE36002.out | refine bS ?_ GE36010.out) | exact HB.out))
                            rintro e w52 ⟨rfl, hi, hb, hk⟩
                            refine ⟨_, rfl, ?_⟩
                            have n0_ := Aside0.mk (Kd.R_mono (Kd.R_keep (IsS79.apart (show IsS79 w _ g36007 t36005 t36012 from by repeat (first | (with_reducible first | exact HI36007.out | apply IsS79.alloc | apply IsS79.drewN | apply IsS79.drew | apply IsS79.set_1 | refine IsS79.far ?_ NB36007_36001.out _ | refine IsS79.far ?_ NB36007_36002.out _ | refine IsS79.far ?_ NB36007_36010.out _) | exact HI36007.out)) (Kd.R_ext HO_36003001.out) (by decide)) hk (fun _ h => h.2)) (fun _ h => h.1))
                            have n1_ := Aside0.mk (Kd.R_mono (Kd.R_keep (IsS79.apart (show IsS79 w _ g36007 t36005 t36012 from by repeat (first | (with_reducible first | exact HI36007.out | apply IsS79.alloc | apply IsS79.drewN | apply IsS79.drew | apply IsS79.set_1 | refine IsS79.far ?_ NB36007_36001.out _ | refine IsS79.far ?_ NB36007_36002.out _ | refine IsS79.far ?_ NB36007_36010.out _) | exact HI36007.out)) (Kd.R_ext HO_36003002.out) (by decide)) hk (fun _ h => h.2)) (fun _ h => h.1))
                            have n2_ := Aside0.mk (Kd.R_mono (Kd.R_keep (IsS79.apart (show IsS79 w _ g36007 t36005 t36012 from by repeat (first | (with_reducible first | exact HI36007.out | apply IsS79.alloc | apply IsS79.drewN | apply IsS79.drew | apply IsS79.set_1 | refine IsS79.far ?_ NB36007_36001.out _ | refine IsS79.far ?_ NB36007_36002.out _ | refine IsS79.far ?_ NB36007_36010.out _) | exact HI36007.out)) (Kd.R_ext HO_36011001.out) (by decide)) hk (fun _ h => h.2)) (fun _ h => h.1))
                            have n3_ := Aside0.mk (Kd.R_mono (Kd.R_keep (IsS79.apart (show IsS79 w _ g36007 t36005 t36012 from by repeat (first | (with_reducible first | exact HI36007.out | apply IsS79.alloc | apply IsS79.drewN | apply IsS79.drew | apply IsS79.set_1 | refine IsS79.far ?_ NB36007_36001.out _ | refine IsS79.far ?_ NB36007_36002.out _ | refine IsS79.far ?_ NB36007_36010.out _) | exact HI36007.out)) (Kd.R_ext HO_36011002.out) (by decide)) hk (fun _ h => h.2)) (fun _ h => h.1))
                            have n4_ := Aside0.mk (KeepBut.blk hk (g' := gb36001) (o := .cells #[.int .i64 x36002000_1, .slice none 0 0, .slice none 0 0] 44 (0, 0)) (blk_ext BK36001.out) NB36001_36007.out (by simp))
                            have n5_ := Aside0.mk (KeepBut.blk hk (g' := gb36002) (o := .cells #[.int .i64 x36003000_1, .slice Ao21 x36003001_1.length co21, .slice Ao22 x36003002_1.length co22] 44 (0, 0)) (blk_ext BK36002.out) NB36002_36007.out (by simp))
                            have n6_ := Aside0.mk (KeepBut.blk hk (g' := gb36010) (o := .cells #[.int .i64 x36003000_1, .slice Ao21 x36003001_1.length co21, .slice Ao22 x36003002_1.length co22] 44 (0, 0)) (blk_ext BK36010.out) NB36010_36007.out (by simp))
                            have n7_ := Aside0.mk (hb)
                            have n8_ := Aside0.mk (hi)
                            clear HO_36003001
                            clear HO_36003002
                            clear HO_36011001
                            clear HO_36011002
                            clear BK36001
                            clear BK36002
                            clear BK36010
                            clear HB
                            clear HI36007
                            have HO_36003001 := n0_
                            have HO_36003002 := n1_
                            have HO_36011001 := n2_
                            have HO_36011002 := n3_
                            have BK36001 := n4_
                            have BK36002 := n5_
                            have BK36010 := n6_
                            have HB := n7_
                            have HI36007 := n8_
                            clear n0_ n1_ n2_ n3_ n4_ n5_ n6_ n7_ n8_
                            (try clear hb)
                            (try clear hb2)
                            (try clear hk)
                            (try clear hi)
                            refine hK.out _ _ ⟨(blk_cell BK36002.out 0).trans rfl, (blk_cell BK36002.out 1).trans rfl, (blk_cell BK36002.out 2).trans rfl⟩ (fun hHeld => ?_)
                            clear hK K
                            refine norm_ (a' := ?_) ?_ ?_
                            rotate_left
                            · show Act.put _ (some 62) _ = _
                              simp only [Act.put, List.setIfInBounds_toArray, List.set_cons_zero, List.set_cons_succ, i64_w, i32_w]
                              rfl
                            refine one_ (i := 4) (N := some 64) #[true, true, true, true, true, false, false, false, false, false, false, false] rfl rfl (one_of HT_.out (by kernel_rfl)) (by decide) (fun K hK => ?_)
                            refine goes_ Try.func39 (by kernel_rfl) rfl #[.agg #[.int .i64 x36003000_1, .slice Ao21 x36003001_1.length co21, .slice Ao22 x36003002_1.length co22], .int .i64 t36021, .int .i64 x8_1] (by rfl) rfl rfl (by (try simp only [List.map_toArray, List.map_cons, List.map_nil]); first | done | rfl | (simp only [List.length_drop, List.length_take]; rfl)) ?_
                            with_reducible refine (channel_Deliver.calls kj43 x36003000_1 _ _ x36003001_1 _ _ x36003002_1 t36021 x8_1 t36023 t36024 t36027 t36030 t36031 _ ?side1 ?side2 ?side3 ?side4 A48.out).mono ?_
                            (case side1 => exact Kd.C_ext (Kd.R_reads' HO_36003001.out).2.2)
                            (case side2 => exact (Kd.R_reads' HO_36003001.out).2.1)
                            (case side3 => exact Kd.C_ext (Kd.R_reads' HO_36003002.out).2.2)
                            (case side4 => exact (Kd.R_reads' HO_36003002.out).2.1)
                            rintro e w53 ⟨v36025, v36028, rfl, ho0, ho1, hb⟩
                            refine ⟨_, rfl, ?_⟩
                            have n4_ := Aside0.mk (Kd.R_lower (Kd.R_new' (Kd.R_new' (Kd.R_new' (Kd.R_new' ho0 (Kd.R_lt (Kd.R_ext HO_36003001.out))) (Kd.R_lt (Kd.R_ext HO_36003002.out))) (Kd.R_lt (Kd.R_ext HO_36011001.out))) (Kd.R_lt (Kd.R_ext HO_36011002.out))) (below_size (by repeat (first | (with_reducible first | exact HB.out | apply bA | apply bN | apply b1 | refine bS ?_ (IsS79.ge HI36007.out) | refine bS ?_ GE36001.out | refine bS ?_ GE36002.out | refine bS ?_ GE36010.out) | exact HB.out))))
                            have n5_ := Aside0.mk (Kd.R_lower (Kd.R_new' (Kd.R_new' (Kd.R_new' (Kd.R_new' ho1 (Kd.R_lt (Kd.R_ext HO_36003001.out))) (Kd.R_lt (Kd.R_ext HO_36003002.out))) (Kd.R_lt (Kd.R_ext HO_36011001.out))) (Kd.R_lt (Kd.R_ext HO_36011002.out))) (below_size (by repeat (first | (with_reducible first | exact HB.out | apply bA | apply bN | apply b1 | refine bS ?_ (IsS79.ge HI36007.out) | refine bS ?_ GE36001.out | refine bS ?_ GE36002.out | refine bS ?_ GE36010.out) | exact HB.out))))
                            have n9_ := Aside0.mk (IsS79.below (by repeat (first | (with_reducible first | exact HI36007.out | apply IsS79.alloc | apply IsS79.drewN | apply IsS79.drew | apply IsS79.set_1 | refine IsS79.far ?_ NB36007_36001.out _ | refine IsS79.far ?_ NB36007_36002.out _ | refine IsS79.far ?_ NB36007_36010.out _) | exact HI36007.out)) hb)
                            have n10_ := Aside0.mk (below_step (by repeat (first | (with_reducible first | exact HB.out | apply bA | apply bN | apply b1 | refine bS ?_ (IsS79.ge HI36007.out) | refine bS ?_ GE36001.out | refine bS ?_ GE36002.out | refine bS ?_ GE36010.out) | exact HB.out)) hb)
                            clear HI36007
                            clear HB
                            have HO36026 := n4_
                            have HO36029 := n5_
                            have HI36007 := n9_
                            have HB := n10_
                            replace HO_36003001 := tdR2 HO_36003001 hb (Kd.R_base ho0) (Kd.R_base ho1)
                            replace HO_36003002 := tdR2 HO_36003002 hb (Kd.R_base ho0) (Kd.R_base ho1)
                            replace HO_36011001 := tdR2 HO_36011001 hb (Kd.R_base ho0) (Kd.R_base ho1)
                            replace HO_36011002 := tdR2 HO_36011002 hb (Kd.R_base ho0) (Kd.R_base ho1)
                            replace BK36001 := mvB BK36001 hb
                            replace BK36002 := mvB BK36002 hb
                            replace BK36010 := mvB BK36010 hb
                            clear n4_ n5_ n9_ n10_
                            (try clear hb)
                            (try clear hb2)
                            (try clear hk)
                            (try clear hi)
                            (try clear ho0)
                            (try clear ho1)
                            obtain ⟨Ao55, co55, eo55⟩ := Kd.R_slice HO36026.out
                            (first | subst eo55 | (injection eo55 with f1_ f2_ f3_; have f4_ := f1_.symm; have f5_ := f3_.symm; clear f1_ f2_ f3_; subst f4_; subst f5_))
                            obtain ⟨Ao57, co57, eo57⟩ := Kd.R_slice HO36029.out
                            (first | subst eo57 | (injection eo57 with f1_ f2_ f3_; have f4_ := f1_.symm; have f5_ := f3_.symm; clear f1_ f2_ f3_; subst f4_; subst f5_))
                            refine hK.out _ _ ⟨(blk_cell BK36002.out 0).trans rfl, (blk_cell BK36002.out 1).trans rfl, (blk_cell BK36002.out 2).trans rfl⟩ (fun hHeld => ?_)
                            clear hK K
                            refine norm_ (a' := ?_) ?_ ?_
                            rotate_left
                            · show Act.put _ (some 64) _ = _
                              simp only [Act.put, List.setIfInBounds_toArray, List.set_cons_zero, List.set_cons_succ, i64_w, i32_w]
                              rfl
                            refine pure_ (i := 5) (N := some 59) (v := ?_) (a' := ?_) #[true, true, true, true, true, true, false, false, false, false, false, false] rfl rfl (any_of HT_.out (by kernel_rfl)) (fun _ _ _ h => h) (Or.inl ⟨by rfl, ?_⟩) ?_ ?_
                            rotate_left
                            · intro w'
                              go_simp
                              with_reducible rfl
                            rotate_left
                            · simp only [Act.put, List.setIfInBounds_toArray, List.set_cons_zero, List.set_cons_succ, i64_w, i32_w]
                              rfl
                            refine pure_ (i := 6) (N := some 65) (v := ?_) (a' := ?_) #[true, true, true, true, true, true, true, false, false, false, false, false] rfl rfl (any_of HT_.out (by kernel_rfl)) (fun _ _ _ h => h) (Or.inl ⟨by rfl, ?_⟩) ?_ ?_
                            rotate_left
                            · intro w'
                              go_simp
                              with_reducible rfl
                            rotate_left
                            · simp only [Act.put, List.setIfInBounds_toArray, List.set_cons_zero, List.set_cons_succ, i64_w, i32_w]
                              rfl
                            refine pure_ (i := 7) (N := some 66) (v := ?_) (a' := ?_) #[true, true, true, true, true, true, true, true, false, false, false, false] rfl rfl (any_of HT_.out (by kernel_rfl)) (fun _ _ _ h => h) (Or.inl ⟨by rfl, ?_⟩) ?_ ?_
                            rotate_left
                            · intro w'
                              go_simp
                              with_reducible rfl
                            rotate_left
                            · simp only [Act.put, List.setIfInBounds_toArray, List.set_cons_zero, List.set_cons_succ, i64_w, i32_w]
                              rfl
                            refine pure_ (i := 8) (N := some 67) (v := ?_) (a' := ?_) #[true, true, true, true, true, true, true, true, true, false, false, false] rfl rfl (any_of HT_.out (by kernel_rfl)) (fun _ _ _ h => h) (Or.inl ⟨by rfl, ?_⟩) ?_ ?_
                            rotate_left
                            · intro w'
                              go_simp
                              with_reducible rfl
                            rotate_left
                            · simp only [Act.put, List.setIfInBounds_toArray, List.set_cons_zero, List.set_cons_succ, i64_w, i32_w]
                              rfl
                            refine one_ (i := 9) (N := none) #[true, true, true, true, true, true, true, true, true, true, false, false] rfl rfl (one_of HT_.out (by kernel_rfl)) (by decide) (fun K hK => ?_)
                            have hs54 : w53.cell? ⟨gb36010, 0, none⟩ = some (.int .i64 x36003000_1) := (blk_cell BK36010.out 0).trans rfl
                            have hfs54 := blk_frozen BK36010.out 0
                            have hns54_0 := NB36001_36010.out
                            have hns54_1 := NB36002_36010.out
                            have hms54_0 := NB36010_36001.out
                            have hms54_1 := NB36010_36002.out
                            have hs56 : w53.cell? ⟨gb36010, 1, none⟩ = some (.slice Ao21 x36003001_1.length co21) := (blk_cell BK36010.out 1).trans rfl
                            have hfs56 := blk_frozen BK36010.out 1
                            have hns56_0 := NB36001_36010.out
                            have hns56_1 := NB36002_36010.out
                            have hms56_0 := NB36010_36001.out
                            have hms56_1 := NB36010_36002.out
                            have hs58 : w53.cell? ⟨gb36010, 2, none⟩ = some (.slice Ao22 x36003002_1.length co22) := (blk_cell BK36010.out 2).trans rfl
                            have hfs58 := blk_frozen BK36010.out 2
                            have hns58_0 := NB36001_36010.out
                            have hns58_1 := NB36002_36010.out
                            have hms58_0 := NB36010_36001.out
                            have hms58_1 := NB36010_36002.out
                            refine skip_ (w1 := ?_) (by rfl) rfl ?_ ?_
                            rotate_left
                            · go_simp
                              rfl
                            refine hK.out _ _ ⟨((cell_far (p := ⟨gb36010, _, none⟩) NB36002_36010.out _).trans (((cell_far (p := ⟨gb36010, _, none⟩) NB36002_36010.out _).trans (((cell_far (p := ⟨gb36010, _, none⟩) NB36002_36010.out _).trans (hHeld.1)))))), ((cell_far (p := ⟨gb36010, _, none⟩) NB36002_36010.out _).trans (((cell_far (p := ⟨gb36010, _, none⟩) NB36002_36010.out _).trans (((cell_far (p := ⟨gb36010, _, none⟩) NB36002_36010.out _).trans (hHeld.2.1)))))), ((cell_far (p := ⟨gb36010, _, none⟩) NB36002_36010.out _).trans (((cell_far (p := ⟨gb36010, _, none⟩) NB36002_36010.out _).trans (((cell_far (p := ⟨gb36010, _, none⟩) NB36002_36010.out _).trans (hHeld.2.2))))))⟩ (fun hHeld => ?_)
                            clear hK K
                            refine pure_ (i := 10) (N := some 11) (v := ?_) (a' := ?_) #[true, true, true, true, true, true, true, true, true, true, true, false] rfl rfl (any_of HT_.out (by kernel_rfl)) (fun _ _ _ h => h) (Or.inl ⟨by rfl, ?_⟩) ?_ ?_
                            rotate_left
                            · intro w'
                              go_simp
                              with_reducible rfl
                            rotate_left
                            · simp only [Act.put, List.setIfInBounds_toArray, List.set_cons_zero, List.set_cons_succ, i64_w, i32_w]
                              rfl
                            refine pure_ (i := 11) (N := some 12) (v := ?_) (a' := ?_) #[true, true, true, true, true, true, true, true, true, true, true, true] rfl rfl (any_of HT_.out (by kernel_rfl)) (fun _ _ _ h => h) (Or.inl ⟨by rfl, ?_⟩) ?_ ?_
                            rotate_left
                            · intro w'
                              go_simp
                              with_reducible rfl
                            rotate_left
                            · simp only [Act.put, List.setIfInBounds_toArray, List.set_cons_zero, List.set_cons_succ, i64_w, i32_w]
                              rfl
                            refine done_ (done_of HT_.out (by kernel_rfl)) ?_
                            try go_wp2
                            go_meet
                            case rel => exact ⟨_, (x7_1), (t36030), (t36031), (t36022), (t36023), (t36024), (t36027), (.slice Ao55 t36024.length co55), (.slice Ao57 t36027.length co57), (by first | rfl | (simp; done) | (simp [*]; done)), (by first | rfl | (simp; done) | (simp [*]; done)), (by first | rfl | (simp; done) | (simp [*]; done)), H', ⟨by have := HK1.out; have := HJ24.out; have := HJ43.out; first | omega | exact Nat.le_refl _⟩, ⟨Kd.R_ext (Kd.R_mono (Kd.R_far (p := ⟨gb36010, 2, none⟩) (Kd.R_far (p := ⟨gb36010, 1, none⟩) (Kd.R_far (p := ⟨gb36010, 0, none⟩) (Kd.R_types HO_36003001.out BK36010.out (by decide)) (fun _ hk => hk.2) (.int .i64 t36023)) (fun _ hk => hk.2) (.slice Ao55 t36024.length co55)) (fun _ hk => hk.2) (.slice Ao57 t36027.length co57)) (fun _ hk => ⟨hk.1.1.1.1, hk.1.2⟩))⟩, ⟨Kd.R_ext (Kd.R_mono (Kd.R_far (p := ⟨gb36010, 2, none⟩) (Kd.R_far (p := ⟨gb36010, 1, none⟩) (Kd.R_far (p := ⟨gb36010, 0, none⟩) (Kd.R_types HO_36003002.out BK36010.out (by decide)) (fun _ hk => hk.2) (.int .i64 t36023)) (fun _ hk => hk.2) (.slice Ao55 t36024.length co55)) (fun _ hk => hk.2) (.slice Ao57 t36027.length co57)) (fun _ hk => ⟨hk.1.1.1.1, hk.1.1.2⟩))⟩, ⟨Kd.R_ext (Kd.R_mono (Kd.R_far (p := ⟨gb36010, 2, none⟩) (Kd.R_far (p := ⟨gb36010, 1, none⟩) (Kd.R_far (p := ⟨gb36010, 0, none⟩) (Kd.R_types HO36026.out BK36010.out (by decide)) (fun _ hk => hk.2) (.int .i64 t36023)) (fun _ hk => hk.2) (.slice Ao55 t36024.length co55)) (fun _ hk => hk.2) (.slice Ao57 t36027.length co57)) (fun _ hk => ⟨hk.1.1.1.2, hk.1.1.1.1.1⟩))⟩, ⟨Kd.R_ext (Kd.R_mono (Kd.R_far (p := ⟨gb36010, 2, none⟩) (Kd.R_far (p := ⟨gb36010, 1, none⟩) (Kd.R_far (p := ⟨gb36010, 0, none⟩) (Kd.R_types HO36029.out BK36010.out (by decide)) (fun _ hk => hk.2) (.int .i64 t36023)) (fun _ hk => hk.2) (.slice Ao55 t36024.length co55)) (fun _ hk => hk.2) (.slice Ao57 t36027.length co57)) (fun _ hk => ⟨hk.1.1.1.1.2, hk.1.1.1.1.1⟩))⟩, ⟨blk_extC BK36001.out⟩, ⟨blk_extC BK36002.out⟩, ⟨by (with_reducible repeat (first | refine blk_drewN ?_ _ | refine blk_drew ?_ | refine blk_alloc ?_ _)); refine blk_put (cs := #[.int .i64 t36023, .slice Ao55 t36024.length co55, .slice Ao22 x36003002_1.length co22]) ?_ 2 _ rfl; (with_reducible repeat (first | refine blk_drewN ?_ _ | refine blk_drew ?_ | refine blk_alloc ?_ _)); refine blk_put (cs := #[.int .i64 t36023, .slice Ao21 x36003001_1.length co21, .slice Ao22 x36003002_1.length co22]) ?_ 1 _ rfl; (with_reducible repeat (first | refine blk_drewN ?_ _ | refine blk_drew ?_ | refine blk_alloc ?_ _)); refine blk_put (cs := #[.int .i64 x36003000_1, .slice Ao21 x36003001_1.length co21, .slice Ao22 x36003002_1.length co22]) ?_ 0 _ rfl; exact blk_ext BK36010.out⟩, ⟨by repeat (first | (with_reducible first | exact HI36007.out | apply IsS79.alloc | apply IsS79.drewN | apply IsS79.drew | apply IsS79.set_1 | refine IsS79.far ?_ NB36007_36001.out _ | refine IsS79.far ?_ NB36007_36002.out _ | refine IsS79.far ?_ NB36007_36010.out _) | exact HI36007.out)⟩, ⟨by repeat (first | (with_reducible first | exact HB.out | apply bA | apply bN | apply b1 | refine bS ?_ (IsS79.ge HI36007.out) | refine bS ?_ GE36001.out | refine bS ?_ GE36002.out | refine bS ?_ GE36010.out) | exact HB.out)⟩⟩
                          · rw [if_neg c50] at H
                            have c50b0 : (t36030 == (wrap64 (x8_1 + 1))) = false := beq_eq_false_iff_ne.mpr c50
                            have c50b1 : (t36030 != (wrap64 (x8_1 + 1))) = true := bne_iff_ne.mpr c50
                            have H' := Aside0.mk H
                            clear H
                            try go_wp2
                            have n0_ := Aside0.mk (Kd.R_drew HO_36003001.out)
                            have n1_ := Aside0.mk (Kd.R_drew HO_36003002.out)
                            have n2_ := Aside0.mk (Kd.R_drew HO_36011001.out)
                            have n3_ := Aside0.mk (Kd.R_drew HO_36011002.out)
                            have n4_ := Aside0.mk (blk_drew BK36001.out)
                            have n5_ := Aside0.mk (blk_drew BK36002.out)
                            have n6_ := Aside0.mk (blk_drew BK36010.out)
                            have n7_ := Aside0.mk (IsS79.drew HI36007.out)
                            have n8_ := Aside0.mk (below_drew1 HB.out)
                            clear HO_36003001
                            clear HO_36003002
                            clear HO_36011001
                            clear HO_36011002
                            clear BK36001
                            clear BK36002
                            clear BK36010
                            clear HI36007
                            clear HB
                            have HO_36003001 := n0_
                            have HO_36003002 := n1_
                            have HO_36011001 := n2_
                            have HO_36011002 := n3_
                            have BK36001 := n4_
                            have BK36002 := n5_
                            have BK36010 := n6_
                            have HI36007 := n7_
                            have HB := n8_
                            clear n0_ n1_ n2_ n3_ n4_ n5_ n6_ n7_ n8_
                            refine start_ (n := 12) (S := fun w' => w'.cell? ⟨gb36002, 0, none⟩ = some (.int .i64 x36003000_1) ∧ w'.cell? ⟨gb36002, 1, none⟩ = some (.slice Ao21 x36003001_1.length co21) ∧ w'.cell? ⟨gb36002, 2, none⟩ = some (.slice Ao22 x36003002_1.length co22)) (ds := []) #[false, false, false, false, false, false, false, false, false, false, false, false] (by kernel_rfl) rfl rfl ⟨(blk_cell BK36002.out 0).trans rfl, (blk_cell BK36002.out 1).trans rfl, (blk_cell BK36002.out 2).trans rfl⟩ (fun hHeld => ?_); refine with_tabW customslaw38_play.tab18 customslaw38_play.bits18 (fun HT_ HW_ => ?_)
                            generalize wc.drew = w59 at HO_36003001 HO_36003002 HO_36011001 HO_36011002 BK36001 BK36002 BK36010 HI36007 HB hHeld ⊢
                            refine pure_ (i := 1) (N := some 61) (v := ?_) (a' := ?_) #[false, true, false, false, false, false, false, false, false, false, false, false] rfl rfl (any_of HT_.out (by kernel_rfl)) (fun _ _ _ h => h) (Or.inl ⟨by rfl, ?_⟩) ?_ ?_
                            rotate_left
                            · intro w'
                              go_simp
                              with_reducible rfl
                            rotate_left
                            · simp only [Act.put, List.setIfInBounds_toArray, List.set_cons_zero, List.set_cons_succ, i64_w, i32_w]
                              rfl
                            refine pure_ (i := 3) (N := some 63) (v := ?_) (a' := ?_) #[false, true, false, true, false, false, false, false, false, false, false, false] rfl rfl (any_of HT_.out (by kernel_rfl)) (fun _ _ _ h => h) (Or.inl ⟨by rfl, ?_⟩) ?_ ?_
                            rotate_left
                            · intro w'
                              go_simp
                              with_reducible rfl
                            rotate_left
                            · simp only [Act.put, List.setIfInBounds_toArray, List.set_cons_zero, List.set_cons_succ, i64_w, i32_w]
                              rfl
                            refine take_ (i := 0) (N := some 60) (v := ?_) (a' := ?_) #[true, true, false, true, false, false, false, false, false, false, false, false] rfl rfl (take_ofW HT_.out HW_.out (by kernel_rfl)) (fun _ _ _ h => h) (Or.inl ⟨by rfl, ?_⟩) hHeld ?_ ?_
                            rotate_left
                            · rintro w' ⟨s0, s1, s2⟩
                              go_simp
                              with_reducible rfl
                            rotate_left
                            · simp only [Act.put, List.setIfInBounds_toArray, List.set_cons_zero, List.set_cons_succ, i64_w, i32_w]
                              rfl
                            refine one_ (i := 2) (N := some 62) #[true, true, true, true, false, false, false, false, false, false, false, false] rfl rfl (one_of HT_.out (by kernel_rfl)) (by decide) (fun K hK => ?_)
                            refine goes_ Try.func69 (by kernel_rfl) rfl #[.pointer (some ⟨g36007, 0, none⟩), .int .i64 20] (by rfl) rfl rfl (by (try simp only [List.map_toArray, List.map_cons, List.map_nil]); first | done | rfl | (simp only [List.length_drop, List.length_take]; rfl)) ?_
                            with_reducible refine (customsmade_Source_Next.calls g36007 t36005 t36012 20 t36021 t36022 w _ ?side1 ?side2 A47.out).mono ?_
                            (case side1 => repeat (first | (with_reducible first | exact HI36007.out | apply IsS79.alloc | apply IsS79.drewN | apply IsS79.drew | apply IsS79.set_1 | refine IsS79.far ?_ NB36007_36001.out _ | refine IsS79.far ?_ NB36007_36002.out _ | refine IsS79.far ?_ NB36007_36010.out _) | exact HI36007.out))
                            (case side2 => repeat (first | (with_reducible first | exact HB.out | apply bA | apply bN | apply b1 | refine bS ?_ (IsS79.ge HI36007.out) | refine bS ?_ GE36001.out | refine bS ?_ GE36002.out | refine bS ?_ GE36010.out) | exact HB.out))
                            rintro e w60 ⟨rfl, hi, hb, hk⟩
                            refine ⟨_, rfl, ?_⟩
                            have n0_ := Aside0.mk (Kd.R_mono (Kd.R_keep (IsS79.apart (show IsS79 w _ g36007 t36005 t36012 from by repeat (first | (with_reducible first | exact HI36007.out | apply IsS79.alloc | apply IsS79.drewN | apply IsS79.drew | apply IsS79.set_1 | refine IsS79.far ?_ NB36007_36001.out _ | refine IsS79.far ?_ NB36007_36002.out _ | refine IsS79.far ?_ NB36007_36010.out _) | exact HI36007.out)) (Kd.R_ext HO_36003001.out) (by decide)) hk (fun _ h => h.2)) (fun _ h => h.1))
                            have n1_ := Aside0.mk (Kd.R_mono (Kd.R_keep (IsS79.apart (show IsS79 w _ g36007 t36005 t36012 from by repeat (first | (with_reducible first | exact HI36007.out | apply IsS79.alloc | apply IsS79.drewN | apply IsS79.drew | apply IsS79.set_1 | refine IsS79.far ?_ NB36007_36001.out _ | refine IsS79.far ?_ NB36007_36002.out _ | refine IsS79.far ?_ NB36007_36010.out _) | exact HI36007.out)) (Kd.R_ext HO_36003002.out) (by decide)) hk (fun _ h => h.2)) (fun _ h => h.1))
                            have n2_ := Aside0.mk (Kd.R_mono (Kd.R_keep (IsS79.apart (show IsS79 w _ g36007 t36005 t36012 from by repeat (first | (with_reducible first | exact HI36007.out | apply IsS79.alloc | apply IsS79.drewN | apply IsS79.drew | apply IsS79.set_1 | refine IsS79.far ?_ NB36007_36001.out _ | refine IsS79.far ?_ NB36007_36002.out _ | refine IsS79.far ?_ NB36007_36010.out _) | exact HI36007.out)) (Kd.R_ext HO_36011001.out) (by decide)) hk (fun _ h => h.2)) (fun _ h => h.1))
                            have n3_ := Aside0.mk (Kd.R_mono (Kd.R_keep (IsS79.apart (show IsS79 w _ g36007 t36005 t36012 from by repeat (first | (with_reducible first | exact HI36007.out | apply IsS79.alloc | apply IsS79.drewN | apply IsS79.drew | apply IsS79.set_1 | refine IsS79.far ?_ NB36007_36001.out _ | refine IsS79.far ?_ NB36007_36002.out _ | refine IsS79.far ?_ NB36007_36010.out _) | exact HI36007.out)) (Kd.R_ext HO_36011002.out) (by decide)) hk (fun _ h => h.2)) (fun _ h => h.1))
                            have n4_ := Aside0.mk (KeepBut.blk hk (g' := gb36001) (o := .cells #[.int .i64 x36002000_1, .slice none 0 0, .slice none 0 0] 44 (0, 0)) (blk_ext BK36001.out) NB36001_36007.out (by simp))
                            have n5_ := Aside0.mk (KeepBut.blk hk (g' := gb36002) (o := .cells #[.int .i64 x36003000_1, .slice Ao21 x36003001_1.length co21, .slice Ao22 x36003002_1.length co22] 44 (0, 0)) (blk_ext BK36002.out) NB36002_36007.out (by simp))
                            have n6_ := Aside0.mk (KeepBut.blk hk (g' := gb36010) (o := .cells #[.int .i64 x36003000_1, .slice Ao21 x36003001_1.length co21, .slice Ao22 x36003002_1.length co22] 44 (0, 0)) (blk_ext BK36010.out) NB36010_36007.out (by simp))
                            have n7_ := Aside0.mk (hb)
                            have n8_ := Aside0.mk (hi)
                            clear HO_36003001
                            clear HO_36003002
                            clear HO_36011001
                            clear HO_36011002
                            clear BK36001
                            clear BK36002
                            clear BK36010
                            clear HB
                            clear HI36007
                            have HO_36003001 := n0_
                            have HO_36003002 := n1_
                            have HO_36011001 := n2_
                            have HO_36011002 := n3_
                            have BK36001 := n4_
                            have BK36002 := n5_
                            have BK36010 := n6_
                            have HB := n7_
                            have HI36007 := n8_
                            clear n0_ n1_ n2_ n3_ n4_ n5_ n6_ n7_ n8_
                            (try clear hb)
                            (try clear hb2)
                            (try clear hk)
                            (try clear hi)
                            refine hK.out _ _ ⟨(blk_cell BK36002.out 0).trans rfl, (blk_cell BK36002.out 1).trans rfl, (blk_cell BK36002.out 2).trans rfl⟩ (fun hHeld => ?_)
                            clear hK K
                            refine norm_ (a' := ?_) ?_ ?_
                            rotate_left
                            · show Act.put _ (some 62) _ = _
                              simp only [Act.put, List.setIfInBounds_toArray, List.set_cons_zero, List.set_cons_succ, i64_w, i32_w]
                              rfl
                            refine one_ (i := 4) (N := some 64) #[true, true, true, true, true, false, false, false, false, false, false, false] rfl rfl (one_of HT_.out (by kernel_rfl)) (by decide) (fun K hK => ?_)
                            refine goes_ Try.func39 (by kernel_rfl) rfl #[.agg #[.int .i64 x36003000_1, .slice Ao21 x36003001_1.length co21, .slice Ao22 x36003002_1.length co22], .int .i64 t36021, .int .i64 x8_1] (by rfl) rfl rfl (by (try simp only [List.map_toArray, List.map_cons, List.map_nil]); first | done | rfl | (simp only [List.length_drop, List.length_take]; rfl)) ?_
                            with_reducible refine (channel_Deliver.calls kj43 x36003000_1 _ _ x36003001_1 _ _ x36003002_1 t36021 x8_1 t36023 t36024 t36027 t36030 t36031 _ ?side1 ?side2 ?side3 ?side4 A48.out).mono ?_
                            (case side1 => exact Kd.C_ext (Kd.R_reads' HO_36003001.out).2.2)
                            (case side2 => exact (Kd.R_reads' HO_36003001.out).2.1)
                            (case side3 => exact Kd.C_ext (Kd.R_reads' HO_36003002.out).2.2)
                            (case side4 => exact (Kd.R_reads' HO_36003002.out).2.1)
                            rintro e w61 ⟨v36025, v36028, rfl, ho0, ho1, hb⟩
                            refine ⟨_, rfl, ?_⟩
                            have n4_ := Aside0.mk (Kd.R_lower (Kd.R_new' (Kd.R_new' (Kd.R_new' (Kd.R_new' ho0 (Kd.R_lt (Kd.R_ext HO_36003001.out))) (Kd.R_lt (Kd.R_ext HO_36003002.out))) (Kd.R_lt (Kd.R_ext HO_36011001.out))) (Kd.R_lt (Kd.R_ext HO_36011002.out))) (below_size (by repeat (first | (with_reducible first | exact HB.out | apply bA | apply bN | apply b1 | refine bS ?_ (IsS79.ge HI36007.out) | refine bS ?_ GE36001.out | refine bS ?_ GE36002.out | refine bS ?_ GE36010.out) | exact HB.out))))
                            have n5_ := Aside0.mk (Kd.R_lower (Kd.R_new' (Kd.R_new' (Kd.R_new' (Kd.R_new' ho1 (Kd.R_lt (Kd.R_ext HO_36003001.out))) (Kd.R_lt (Kd.R_ext HO_36003002.out))) (Kd.R_lt (Kd.R_ext HO_36011001.out))) (Kd.R_lt (Kd.R_ext HO_36011002.out))) (below_size (by repeat (first | (with_reducible first | exact HB.out | apply bA | apply bN | apply b1 | refine bS ?_ (IsS79.ge HI36007.out) | refine bS ?_ GE36001.out | refine bS ?_ GE36002.out | refine bS ?_ GE36010.out) | exact HB.out))))
                            have n9_ := Aside0.mk (IsS79.below (by repeat (first | (with_reducible first | exact HI36007.out | apply IsS79.alloc | apply IsS79.drewN | apply IsS79.drew | apply IsS79.set_1 | refine IsS79.far ?_ NB36007_36001.out _ | refine IsS79.far ?_ NB36007_36002.out _ | refine IsS79.far ?_ NB36007_36010.out _) | exact HI36007.out)) hb)
                            have n10_ := Aside0.mk (below_step (by repeat (first | (with_reducible first | exact HB.out | apply bA | apply bN | apply b1 | refine bS ?_ (IsS79.ge HI36007.out) | refine bS ?_ GE36001.out | refine bS ?_ GE36002.out | refine bS ?_ GE36010.out) | exact HB.out)) hb)
                            clear HI36007
                            clear HB
                            have HO36026 := n4_
                            have HO36029 := n5_
                            have HI36007 := n9_
                            have HB := n10_
                            replace HO_36003001 := tdR2 HO_36003001 hb (Kd.R_base ho0) (Kd.R_base ho1)
                            replace HO_36003002 := tdR2 HO_36003002 hb (Kd.R_base ho0) (Kd.R_base ho1)
                            replace HO_36011001 := tdR2 HO_36011001 hb (Kd.R_base ho0) (Kd.R_base ho1)
                            replace HO_36011002 := tdR2 HO_36011002 hb (Kd.R_base ho0) (Kd.R_base ho1)
                            replace BK36001 := mvB BK36001 hb
                            replace BK36002 := mvB BK36002 hb
                            replace BK36010 := mvB BK36010 hb
                            clear n4_ n5_ n9_ n10_
                            (try clear hb)
                            (try clear hb2)
                            (try clear hk)
                            (try clear hi)
                            (try clear ho0)
                            (try clear ho1)
                            obtain ⟨Ao63, co63, eo63⟩ := Kd.R_slice HO36026.out
                            (first | subst eo63 | (injection eo63 with f1_ f2_ f3_; have f4_ := f1_.symm; have f5_ := f3_.symm; clear f1_ f2_ f3_; subst f4_; subst f5_))
                            obtain ⟨Ao65, co65, eo65⟩ := Kd.R_slice HO36029.out
                            (first | subst eo65 | (injection eo65 with f1_ f2_ f3_; have f4_ := f1_.symm; have f5_ := f3_.symm; clear f1_ f2_ f3_; subst f4_; subst f5_))
                            refine hK.out _ _ ⟨(blk_cell BK36002.out 0).trans rfl, (blk_cell BK36002.out 1).trans rfl, (blk_cell BK36002.out 2).trans rfl⟩ (fun hHeld => ?_)
                            clear hK K
                            refine norm_ (a' := ?_) ?_ ?_
                            rotate_left
                            · show Act.put _ (some 64) _ = _
                              simp only [Act.put, List.setIfInBounds_toArray, List.set_cons_zero, List.set_cons_succ, i64_w, i32_w]
                              rfl
                            refine pure_ (i := 5) (N := some 59) (v := ?_) (a' := ?_) #[true, true, true, true, true, true, false, false, false, false, false, false] rfl rfl (any_of HT_.out (by kernel_rfl)) (fun _ _ _ h => h) (Or.inl ⟨by rfl, ?_⟩) ?_ ?_
                            rotate_left
                            · intro w'
                              go_simp
                              with_reducible rfl
                            rotate_left
                            · simp only [Act.put, List.setIfInBounds_toArray, List.set_cons_zero, List.set_cons_succ, i64_w, i32_w]
                              rfl
                            refine pure_ (i := 6) (N := some 65) (v := ?_) (a' := ?_) #[true, true, true, true, true, true, true, false, false, false, false, false] rfl rfl (any_of HT_.out (by kernel_rfl)) (fun _ _ _ h => h) (Or.inl ⟨by rfl, ?_⟩) ?_ ?_
                            rotate_left
                            · intro w'
                              go_simp
                              with_reducible rfl
                            rotate_left
                            · simp only [Act.put, List.setIfInBounds_toArray, List.set_cons_zero, List.set_cons_succ, i64_w, i32_w]
                              rfl
                            refine pure_ (i := 7) (N := some 66) (v := ?_) (a' := ?_) #[true, true, true, true, true, true, true, true, false, false, false, false] rfl rfl (any_of HT_.out (by kernel_rfl)) (fun _ _ _ h => h) (Or.inl ⟨by rfl, ?_⟩) ?_ ?_
                            rotate_left
                            · intro w'
                              go_simp
                              with_reducible rfl
                            rotate_left
                            · simp only [Act.put, List.setIfInBounds_toArray, List.set_cons_zero, List.set_cons_succ, i64_w, i32_w]
                              rfl
                            refine pure_ (i := 8) (N := some 67) (v := ?_) (a' := ?_) #[true, true, true, true, true, true, true, true, true, false, false, false] rfl rfl (any_of HT_.out (by kernel_rfl)) (fun _ _ _ h => h) (Or.inl ⟨by rfl, ?_⟩) ?_ ?_
                            rotate_left
                            · intro w'
                              go_simp
                              with_reducible rfl
                            rotate_left
                            · simp only [Act.put, List.setIfInBounds_toArray, List.set_cons_zero, List.set_cons_succ, i64_w, i32_w]
                              rfl
                            refine one_ (i := 9) (N := none) #[true, true, true, true, true, true, true, true, true, true, false, false] rfl rfl (one_of HT_.out (by kernel_rfl)) (by decide) (fun K hK => ?_)
                            have hs62 : w61.cell? ⟨gb36010, 0, none⟩ = some (.int .i64 x36003000_1) := (blk_cell BK36010.out 0).trans rfl
                            have hfs62 := blk_frozen BK36010.out 0
                            have hns62_0 := NB36001_36010.out
                            have hns62_1 := NB36002_36010.out
                            have hms62_0 := NB36010_36001.out
                            have hms62_1 := NB36010_36002.out
                            have hs64 : w61.cell? ⟨gb36010, 1, none⟩ = some (.slice Ao21 x36003001_1.length co21) := (blk_cell BK36010.out 1).trans rfl
                            have hfs64 := blk_frozen BK36010.out 1
                            have hns64_0 := NB36001_36010.out
                            have hns64_1 := NB36002_36010.out
                            have hms64_0 := NB36010_36001.out
                            have hms64_1 := NB36010_36002.out
                            have hs66 : w61.cell? ⟨gb36010, 2, none⟩ = some (.slice Ao22 x36003002_1.length co22) := (blk_cell BK36010.out 2).trans rfl
                            have hfs66 := blk_frozen BK36010.out 2
                            have hns66_0 := NB36001_36010.out
                            have hns66_1 := NB36002_36010.out
                            have hms66_0 := NB36010_36001.out
                            have hms66_1 := NB36010_36002.out
                            refine skip_ (w1 := ?_) (by rfl) rfl ?_ ?_
                            rotate_left
                            · go_simp
                              rfl
                            refine hK.out _ _ ⟨((cell_far (p := ⟨gb36010, _, none⟩) NB36002_36010.out _).trans (((cell_far (p := ⟨gb36010, _, none⟩) NB36002_36010.out _).trans (((cell_far (p := ⟨gb36010, _, none⟩) NB36002_36010.out _).trans (hHeld.1)))))), ((cell_far (p := ⟨gb36010, _, none⟩) NB36002_36010.out _).trans (((cell_far (p := ⟨gb36010, _, none⟩) NB36002_36010.out _).trans (((cell_far (p := ⟨gb36010, _, none⟩) NB36002_36010.out _).trans (hHeld.2.1)))))), ((cell_far (p := ⟨gb36010, _, none⟩) NB36002_36010.out _).trans (((cell_far (p := ⟨gb36010, _, none⟩) NB36002_36010.out _).trans (((cell_far (p := ⟨gb36010, _, none⟩) NB36002_36010.out _).trans (hHeld.2.2))))))⟩ (fun hHeld => ?_)
                            clear hK K
                            refine pure_ (i := 10) (N := some 11) (v := ?_) (a' := ?_) #[true, true, true, true, true, true, true, true, true, true, true, false] rfl rfl (any_of HT_.out (by kernel_rfl)) (fun _ _ _ h => h) (Or.inl ⟨by rfl, ?_⟩) ?_ ?_
                            rotate_left
                            · intro w'
                              go_simp
                              with_reducible rfl
                            rotate_left
                            · simp only [Act.put, List.setIfInBounds_toArray, List.set_cons_zero, List.set_cons_succ, i64_w, i32_w]
                              rfl
                            refine pure_ (i := 11) (N := some 12) (v := ?_) (a' := ?_) #[true, true, true, true, true, true, true, true, true, true, true, true] rfl rfl (any_of HT_.out (by kernel_rfl)) (fun _ _ _ h => h) (Or.inl ⟨by rfl, ?_⟩) ?_ ?_
                            rotate_left
                            · intro w'
                              go_simp
                              with_reducible rfl
                            rotate_left
                            · simp only [Act.put, List.setIfInBounds_toArray, List.set_cons_zero, List.set_cons_succ, i64_w, i32_w]
                              rfl
                            refine done_ (done_of HT_.out (by kernel_rfl)) ?_
                            try go_wp2
                            go_meet
                            case rel => exact ⟨_, (x7_1), (x8_1), (t36031), (t36022), (t36023), (t36024), (t36027), (.slice Ao63 t36024.length co63), (.slice Ao65 t36027.length co65), (by first | rfl | (simp; done) | (simp [*]; done)), (by first | rfl | (simp; done) | (simp [*]; done)), (by first | rfl | (simp; done) | (simp [*]; done)), H', ⟨by have := HK1.out; have := HJ24.out; have := HJ43.out; first | omega | exact Nat.le_refl _⟩, ⟨Kd.R_ext (Kd.R_mono (Kd.R_far (p := ⟨gb36010, 2, none⟩) (Kd.R_far (p := ⟨gb36010, 1, none⟩) (Kd.R_far (p := ⟨gb36010, 0, none⟩) (Kd.R_types HO_36003001.out BK36010.out (by decide)) (fun _ hk => hk.2) (.int .i64 t36023)) (fun _ hk => hk.2) (.slice Ao63 t36024.length co63)) (fun _ hk => hk.2) (.slice Ao65 t36027.length co65)) (fun _ hk => ⟨hk.1.1.1.1, hk.1.2⟩))⟩, ⟨Kd.R_ext (Kd.R_mono (Kd.R_far (p := ⟨gb36010, 2, none⟩) (Kd.R_far (p := ⟨gb36010, 1, none⟩) (Kd.R_far (p := ⟨gb36010, 0, none⟩) (Kd.R_types HO_36003002.out BK36010.out (by decide)) (fun _ hk => hk.2) (.int .i64 t36023)) (fun _ hk => hk.2) (.slice Ao63 t36024.length co63)) (fun _ hk => hk.2) (.slice Ao65 t36027.length co65)) (fun _ hk => ⟨hk.1.1.1.1, hk.1.1.2⟩))⟩, ⟨Kd.R_ext (Kd.R_mono (Kd.R_far (p := ⟨gb36010, 2, none⟩) (Kd.R_far (p := ⟨gb36010, 1, none⟩) (Kd.R_far (p := ⟨gb36010, 0, none⟩) (Kd.R_types HO36026.out BK36010.out (by decide)) (fun _ hk => hk.2) (.int .i64 t36023)) (fun _ hk => hk.2) (.slice Ao63 t36024.length co63)) (fun _ hk => hk.2) (.slice Ao65 t36027.length co65)) (fun _ hk => ⟨hk.1.1.1.2, hk.1.1.1.1.1⟩))⟩, ⟨Kd.R_ext (Kd.R_mono (Kd.R_far (p := ⟨gb36010, 2, none⟩) (Kd.R_far (p := ⟨gb36010, 1, none⟩) (Kd.R_far (p := ⟨gb36010, 0, none⟩) (Kd.R_types HO36029.out BK36010.out (by decide)) (fun _ hk => hk.2) (.int .i64 t36023)) (fun _ hk => hk.2) (.slice Ao63 t36024.length co63)) (fun _ hk => hk.2) (.slice Ao65 t36027.length co65)) (fun _ hk => ⟨hk.1.1.1.1.2, hk.1.1.1.1.1⟩))⟩, ⟨blk_extC BK36001.out⟩, ⟨blk_extC BK36002.out⟩, ⟨by (with_reducible repeat (first | refine blk_drewN ?_ _ | refine blk_drew ?_ | refine blk_alloc ?_ _)); refine blk_put (cs := #[.int .i64 t36023, .slice Ao63 t36024.length co63, .slice Ao22 x36003002_1.length co22]) ?_ 2 _ rfl; (with_reducible repeat (first | refine blk_drewN ?_ _ | refine blk_drew ?_ | refine blk_alloc ?_ _)); refine blk_put (cs := #[.int .i64 t36023, .slice Ao21 x36003001_1.length co21, .slice Ao22 x36003002_1.length co22]) ?_ 1 _ rfl; (with_reducible repeat (first | refine blk_drewN ?_ _ | refine blk_drew ?_ | refine blk_alloc ?_ _)); refine blk_put (cs := #[.int .i64 x36003000_1, .slice Ao21 x36003001_1.length co21, .slice Ao22 x36003002_1.length co22]) ?_ 0 _ rfl; exact blk_ext BK36010.out⟩, ⟨by repeat (first | (with_reducible first | exact HI36007.out | apply IsS79.alloc | apply IsS79.drewN | apply IsS79.drew | apply IsS79.set_1 | refine IsS79.far ?_ NB36007_36001.out _ | refine IsS79.far ?_ NB36007_36002.out _ | refine IsS79.far ?_ NB36007_36010.out _) | exact HI36007.out)⟩, ⟨by repeat (first | (with_reducible first | exact HB.out | apply bA | apply bN | apply b1 | refine bS ?_ (IsS79.ge HI36007.out) | refine bS ?_ GE36001.out | refine bS ?_ GE36002.out | refine bS ?_ GE36010.out) | exact HB.out)⟩⟩
                        · rw [if_neg c49] at H
                          have c49b0 : (t36031 == 0) = false := beq_eq_false_iff_ne.mpr c49
                          have c49b1 : (t36031 != 0) = true := bne_iff_ne.mpr c49
                          have H' := Aside0.mk H
                          clear H
                          try go_wp2
                          have n0_ := Aside0.mk (Kd.R_drew HO_36003001.out)
                          have n1_ := Aside0.mk (Kd.R_drew HO_36003002.out)
                          have n2_ := Aside0.mk (Kd.R_drew HO_36011001.out)
                          have n3_ := Aside0.mk (Kd.R_drew HO_36011002.out)
                          have n4_ := Aside0.mk (blk_drew BK36001.out)
                          have n5_ := Aside0.mk (blk_drew BK36002.out)
                          have n6_ := Aside0.mk (blk_drew BK36010.out)
                          have n7_ := Aside0.mk (IsS79.drew HI36007.out)
                          have n8_ := Aside0.mk (below_drew1 HB.out)
                          clear HO_36003001
                          clear HO_36003002
                          clear HO_36011001
                          clear HO_36011002
                          clear BK36001
                          clear BK36002
                          clear BK36010
                          clear HI36007
                          clear HB
                          have HO_36003001 := n0_
                          have HO_36003002 := n1_
                          have HO_36011001 := n2_
                          have HO_36011002 := n3_
                          have BK36001 := n4_
                          have BK36002 := n5_
                          have BK36010 := n6_
                          have HI36007 := n7_
                          have HB := n8_
                          clear n0_ n1_ n2_ n3_ n4_ n5_ n6_ n7_ n8_
                          refine start_ (n := 12) (S := fun w' => w'.cell? ⟨gb36002, 0, none⟩ = some (.int .i64 x36003000_1) ∧ w'.cell? ⟨gb36002, 1, none⟩ = some (.slice Ao21 x36003001_1.length co21) ∧ w'.cell? ⟨gb36002, 2, none⟩ = some (.slice Ao22 x36003002_1.length co22)) (ds := []) #[false, false, false, false, false, false, false, false, false, false, false, false] (by kernel_rfl) rfl rfl ⟨(blk_cell BK36002.out 0).trans rfl, (blk_cell BK36002.out 1).trans rfl, (blk_cell BK36002.out 2).trans rfl⟩ (fun hHeld => ?_); refine with_tabW customslaw38_play.tab18 customslaw38_play.bits18 (fun HT_ HW_ => ?_)
                          generalize wc.drew = w67 at HO_36003001 HO_36003002 HO_36011001 HO_36011002 BK36001 BK36002 BK36010 HI36007 HB hHeld ⊢
                          refine pure_ (i := 1) (N := some 61) (v := ?_) (a' := ?_) #[false, true, false, false, false, false, false, false, false, false, false, false] rfl rfl (any_of HT_.out (by kernel_rfl)) (fun _ _ _ h => h) (Or.inl ⟨by rfl, ?_⟩) ?_ ?_
                          rotate_left
                          · intro w'
                            go_simp
                            with_reducible rfl
                          rotate_left
                          · simp only [Act.put, List.setIfInBounds_toArray, List.set_cons_zero, List.set_cons_succ, i64_w, i32_w]
                            rfl
                          refine pure_ (i := 3) (N := some 63) (v := ?_) (a' := ?_) #[false, true, false, true, false, false, false, false, false, false, false, false] rfl rfl (any_of HT_.out (by kernel_rfl)) (fun _ _ _ h => h) (Or.inl ⟨by rfl, ?_⟩) ?_ ?_
                          rotate_left
                          · intro w'
                            go_simp
                            with_reducible rfl
                          rotate_left
                          · simp only [Act.put, List.setIfInBounds_toArray, List.set_cons_zero, List.set_cons_succ, i64_w, i32_w]
                            rfl
                          refine take_ (i := 0) (N := some 60) (v := ?_) (a' := ?_) #[true, true, false, true, false, false, false, false, false, false, false, false] rfl rfl (take_ofW HT_.out HW_.out (by kernel_rfl)) (fun _ _ _ h => h) (Or.inl ⟨by rfl, ?_⟩) hHeld ?_ ?_
                          rotate_left
                          · rintro w' ⟨s0, s1, s2⟩
                            go_simp
                            with_reducible rfl
                          rotate_left
                          · simp only [Act.put, List.setIfInBounds_toArray, List.set_cons_zero, List.set_cons_succ, i64_w, i32_w]
                            rfl
                          refine one_ (i := 2) (N := some 62) #[true, true, true, true, false, false, false, false, false, false, false, false] rfl rfl (one_of HT_.out (by kernel_rfl)) (by decide) (fun K hK => ?_)
                          refine goes_ Try.func69 (by kernel_rfl) rfl #[.pointer (some ⟨g36007, 0, none⟩), .int .i64 20] (by rfl) rfl rfl (by (try simp only [List.map_toArray, List.map_cons, List.map_nil]); first | done | rfl | (simp only [List.length_drop, List.length_take]; rfl)) ?_
                          with_reducible refine (customsmade_Source_Next.calls g36007 t36005 t36012 20 t36021 t36022 w _ ?side1 ?side2 A47.out).mono ?_
                          (case side1 => repeat (first | (with_reducible first | exact HI36007.out | apply IsS79.alloc | apply IsS79.drewN | apply IsS79.drew | apply IsS79.set_1 | refine IsS79.far ?_ NB36007_36001.out _ | refine IsS79.far ?_ NB36007_36002.out _ | refine IsS79.far ?_ NB36007_36010.out _) | exact HI36007.out))
                          (case side2 => repeat (first | (with_reducible first | exact HB.out | apply bA | apply bN | apply b1 | refine bS ?_ (IsS79.ge HI36007.out) | refine bS ?_ GE36001.out | refine bS ?_ GE36002.out | refine bS ?_ GE36010.out) | exact HB.out))
                          rintro e w68 ⟨rfl, hi, hb, hk⟩
                          refine ⟨_, rfl, ?_⟩
                          have n0_ := Aside0.mk (Kd.R_mono (Kd.R_keep (IsS79.apart (show IsS79 w _ g36007 t36005 t36012 from by repeat (first | (with_reducible first | exact HI36007.out | apply IsS79.alloc | apply IsS79.drewN | apply IsS79.drew | apply IsS79.set_1 | refine IsS79.far ?_ NB36007_36001.out _ | refine IsS79.far ?_ NB36007_36002.out _ | refine IsS79.far ?_ NB36007_36010.out _) | exact HI36007.out)) (Kd.R_ext HO_36003001.out) (by decide)) hk (fun _ h => h.2)) (fun _ h => h.1))
                          have n1_ := Aside0.mk (Kd.R_mono (Kd.R_keep (IsS79.apart (show IsS79 w _ g36007 t36005 t36012 from by repeat (first | (with_reducible first | exact HI36007.out | apply IsS79.alloc | apply IsS79.drewN | apply IsS79.drew | apply IsS79.set_1 | refine IsS79.far ?_ NB36007_36001.out _ | refine IsS79.far ?_ NB36007_36002.out _ | refine IsS79.far ?_ NB36007_36010.out _) | exact HI36007.out)) (Kd.R_ext HO_36003002.out) (by decide)) hk (fun _ h => h.2)) (fun _ h => h.1))
                          have n2_ := Aside0.mk (Kd.R_mono (Kd.R_keep (IsS79.apart (show IsS79 w _ g36007 t36005 t36012 from by repeat (first | (with_reducible first | exact HI36007.out | apply IsS79.alloc | apply IsS79.drewN | apply IsS79.drew | apply IsS79.set_1 | refine IsS79.far ?_ NB36007_36001.out _ | refine IsS79.far ?_ NB36007_36002.out _ | refine IsS79.far ?_ NB36007_36010.out _) | exact HI36007.out)) (Kd.R_ext HO_36011001.out) (by decide)) hk (fun _ h => h.2)) (fun _ h => h.1))
                          have n3_ := Aside0.mk (Kd.R_mono (Kd.R_keep (IsS79.apart (show IsS79 w _ g36007 t36005 t36012 from by repeat (first | (with_reducible first | exact HI36007.out | apply IsS79.alloc | apply IsS79.drewN | apply IsS79.drew | apply IsS79.set_1 | refine IsS79.far ?_ NB36007_36001.out _ | refine IsS79.far ?_ NB36007_36002.out _ | refine IsS79.far ?_ NB36007_36010.out _) | exact HI36007.out)) (Kd.R_ext HO_36011002.out) (by decide)) hk (fun _ h => h.2)) (fun _ h => h.1))
                          have n4_ := Aside0.mk (KeepBut.blk hk (g' := gb36001) (o := .cells #[.int .i64 x36002000_1, .slice none 0 0, .slice none 0 0] 44 (0, 0)) (blk_ext BK36001.out) NB36001_36007.out (by simp))
                          have n5_ := Aside0.mk (KeepBut.blk hk (g' := gb36002) (o := .cells #[.int .i64 x36003000_1, .slice Ao21 x36003001_1.length co21, .slice Ao22 x36003002_1.length co22] 44 (0, 0)) (blk_ext BK36002.out) NB36002_36007.out (by simp))
                          have n6_ := Aside0.mk (KeepBut.blk hk (g' := gb36010) (o := .cells #[.int .i64 x36003000_1, .slice Ao21 x36003001_1.length co21, .slice Ao22 x36003002_1.length co22] 44 (0, 0)) (blk_ext BK36010.out) NB36010_36007.out (by simp))
                          have n7_ := Aside0.mk (hb)
                          have n8_ := Aside0.mk (hi)
                          clear HO_36003001
                          clear HO_36003002
                          clear HO_36011001
                          clear HO_36011002
                          clear BK36001
                          clear BK36002
                          clear BK36010
                          clear HB
                          clear HI36007
                          have HO_36003001 := n0_
                          have HO_36003002 := n1_
                          have HO_36011001 := n2_
                          have HO_36011002 := n3_
                          have BK36001 := n4_
                          have BK36002 := n5_
                          have BK36010 := n6_
                          have HB := n7_
                          have HI36007 := n8_
                          clear n0_ n1_ n2_ n3_ n4_ n5_ n6_ n7_ n8_
                          (try clear hb)
                          (try clear hb2)
                          (try clear hk)
                          (try clear hi)
                          refine hK.out _ _ ⟨(blk_cell BK36002.out 0).trans rfl, (blk_cell BK36002.out 1).trans rfl, (blk_cell BK36002.out 2).trans rfl⟩ (fun hHeld => ?_)
                          clear hK K
                          refine norm_ (a' := ?_) ?_ ?_
                          rotate_left
                          · show Act.put _ (some 62) _ = _
                            simp only [Act.put, List.setIfInBounds_toArray, List.set_cons_zero, List.set_cons_succ, i64_w, i32_w]
                            rfl
                          refine one_ (i := 4) (N := some 64) #[true, true, true, true, true, false, false, false, false, false, false, false] rfl rfl (one_of HT_.out (by kernel_rfl)) (by decide) (fun K hK => ?_)
                          refine goes_ Try.func39 (by kernel_rfl) rfl #[.agg #[.int .i64 x36003000_1, .slice Ao21 x36003001_1.length co21, .slice Ao22 x36003002_1.length co22], .int .i64 t36021, .int .i64 x8_1] (by rfl) rfl rfl (by (try simp only [List.map_toArray, List.map_cons, List.map_nil]); first | done | rfl | (simp only [List.length_drop, List.length_take]; rfl)) ?_
                          with_reducible refine (channel_Deliver.calls kj43 x36003000_1 _ _ x36003001_1 _ _ x36003002_1 t36021 x8_1 t36023 t36024 t36027 t36030 t36031 _ ?side1 ?side2 ?side3 ?side4 A48.out).mono ?_
                          (case side1 => exact Kd.C_ext (Kd.R_reads' HO_36003001.out).2.2)
                          (case side2 => exact (Kd.R_reads' HO_36003001.out).2.1)
                          (case side3 => exact Kd.C_ext (Kd.R_reads' HO_36003002.out).2.2)
                          (case side4 => exact (Kd.R_reads' HO_36003002.out).2.1)
                          rintro e w69 ⟨v36025, v36028, rfl, ho0, ho1, hb⟩
                          refine ⟨_, rfl, ?_⟩
                          have n4_ := Aside0.mk (Kd.R_lower (Kd.R_new' (Kd.R_new' (Kd.R_new' (Kd.R_new' ho0 (Kd.R_lt (Kd.R_ext HO_36003001.out))) (Kd.R_lt (Kd.R_ext HO_36003002.out))) (Kd.R_lt (Kd.R_ext HO_36011001.out))) (Kd.R_lt (Kd.R_ext HO_36011002.out))) (below_size (by repeat (first | (with_reducible first | exact HB.out | apply bA | apply bN | apply b1 | refine bS ?_ (IsS79.ge HI36007.out) | refine bS ?_ GE36001.out | refine bS ?_ GE36002.out | refine bS ?_ GE36010.out) | exact HB.out))))
                          have n5_ := Aside0.mk (Kd.R_lower (Kd.R_new' (Kd.R_new' (Kd.R_new' (Kd.R_new' ho1 (Kd.R_lt (Kd.R_ext HO_36003001.out))) (Kd.R_lt (Kd.R_ext HO_36003002.out))) (Kd.R_lt (Kd.R_ext HO_36011001.out))) (Kd.R_lt (Kd.R_ext HO_36011002.out))) (below_size (by repeat (first | (with_reducible first | exact HB.out | apply bA | apply bN | apply b1 | refine bS ?_ (IsS79.ge HI36007.out) | refine bS ?_ GE36001.out | refine bS ?_ GE36002.out | refine bS ?_ GE36010.out) | exact HB.out))))
                          have n9_ := Aside0.mk (IsS79.below (by repeat (first | (with_reducible first | exact HI36007.out | apply IsS79.alloc | apply IsS79.drewN | apply IsS79.drew | apply IsS79.set_1 | refine IsS79.far ?_ NB36007_36001.out _ | refine IsS79.far ?_ NB36007_36002.out _ | refine IsS79.far ?_ NB36007_36010.out _) | exact HI36007.out)) hb)
                          have n10_ := Aside0.mk (below_step (by repeat (first | (with_reducible first | exact HB.out | apply bA | apply bN | apply b1 | refine bS ?_ (IsS79.ge HI36007.out) | refine bS ?_ GE36001.out | refine bS ?_ GE36002.out | refine bS ?_ GE36010.out) | exact HB.out)) hb)
                          clear HI36007
                          clear HB
                          have HO36026 := n4_
                          have HO36029 := n5_
                          have HI36007 := n9_
                          have HB := n10_
                          replace HO_36003001 := tdR2 HO_36003001 hb (Kd.R_base ho0) (Kd.R_base ho1)
                          replace HO_36003002 := tdR2 HO_36003002 hb (Kd.R_base ho0) (Kd.R_base ho1)
                          replace HO_36011001 := tdR2 HO_36011001 hb (Kd.R_base ho0) (Kd.R_base ho1)
                          replace HO_36011002 := tdR2 HO_36011002 hb (Kd.R_base ho0) (Kd.R_base ho1)
                          replace BK36001 := mvB BK36001 hb
                          replace BK36002 := mvB BK36002 hb
                          replace BK36010 := mvB BK36010 hb
                          clear n4_ n5_ n9_ n10_
                          (try clear hb)
                          (try clear hb2)
                          (try clear hk)
                          (try clear hi)
                          (try clear ho0)
                          (try clear ho1)
                          obtain ⟨Ao71, co71, eo71⟩ := Kd.R_slice HO36026.out
                          (first | subst eo71 | (injection eo71 with f1_ f2_ f3_; have f4_ := f1_.symm; have f5_ := f3_.symm; clear f1_ f2_ f3_; subst f4_; subst f5_))
                          obtain ⟨Ao73, co73, eo73⟩ := Kd.R_slice HO36029.out
                          (first | subst eo73 | (injection eo73 with f1_ f2_ f3_; have f4_ := f1_.symm; have f5_ := f3_.symm; clear f1_ f2_ f3_; subst f4_; subst f5_))
                          refine hK.out _ _ ⟨(blk_cell BK36002.out 0).trans rfl, (blk_cell BK36002.out 1).trans rfl, (blk_cell BK36002.out 2).trans rfl⟩ (fun hHeld => ?_)
                          clear hK K
                          refine norm_ (a' := ?_) ?_ ?_
                          rotate_left
                          · show Act.put _ (some 64) _ = _
                            simp only [Act.put, List.setIfInBounds_toArray, List.set_cons_zero, List.set_cons_succ, i64_w, i32_w]
                            rfl
                          refine pure_ (i := 5) (N := some 59) (v := ?_) (a' := ?_) #[true, true, true, true, true, true, false, false, false, false, false, false] rfl rfl (any_of HT_.out (by kernel_rfl)) (fun _ _ _ h => h) (Or.inl ⟨by rfl, ?_⟩) ?_ ?_
                          rotate_left
                          · intro w'
                            go_simp
                            with_reducible rfl
                          rotate_left
                          · simp only [Act.put, List.setIfInBounds_toArray, List.set_cons_zero, List.set_cons_succ, i64_w, i32_w]
                            rfl
                          refine pure_ (i := 6) (N := some 65) (v := ?_) (a' := ?_) #[true, true, true, true, true, true, true, false, false, false, false, false] rfl rfl (any_of HT_.out (by kernel_rfl)) (fun _ _ _ h => h) (Or.inl ⟨by rfl, ?_⟩) ?_ ?_
                          rotate_left
                          · intro w'
                            go_simp
                            with_reducible rfl
                          rotate_left
                          · simp only [Act.put, List.setIfInBounds_toArray, List.set_cons_zero, List.set_cons_succ, i64_w, i32_w]
                            rfl
                          refine pure_ (i := 7) (N := some 66) (v := ?_) (a' := ?_) #[true, true, true, true, true, true, true, true, false, false, false, false] rfl rfl (any_of HT_.out (by kernel_rfl)) (fun _ _ _ h => h) (Or.inl ⟨by rfl, ?_⟩) ?_ ?_
                          rotate_left
                          · intro w'
                            go_simp
                            with_reducible rfl
                          rotate_left
                          · simp only [Act.put, List.setIfInBounds_toArray, List.set_cons_zero, List.set_cons_succ, i64_w, i32_w]
                            rfl
                          refine pure_ (i := 8) (N := some 67) (v := ?_) (a' := ?_) #[true, true, true, true, true, true, true, true, true, false, false, false] rfl rfl (any_of HT_.out (by kernel_rfl)) (fun _ _ _ h => h) (Or.inl ⟨by rfl, ?_⟩) ?_ ?_
                          rotate_left
                          · intro w'
                            go_simp
                            with_reducible rfl
                          rotate_left
                          · simp only [Act.put, List.setIfInBounds_toArray, List.set_cons_zero, List.set_cons_succ, i64_w, i32_w]
                            rfl
                          refine one_ (i := 9) (N := none) #[true, true, true, true, true, true, true, true, true, true, false, false] rfl rfl (one_of HT_.out (by kernel_rfl)) (by decide) (fun K hK => ?_)
                          have hs70 : w69.cell? ⟨gb36010, 0, none⟩ = some (.int .i64 x36003000_1) := (blk_cell BK36010.out 0).trans rfl
                          have hfs70 := blk_frozen BK36010.out 0
                          have hns70_0 := NB36001_36010.out
                          have hns70_1 := NB36002_36010.out
                          have hms70_0 := NB36010_36001.out
                          have hms70_1 := NB36010_36002.out
                          have hs72 : w69.cell? ⟨gb36010, 1, none⟩ = some (.slice Ao21 x36003001_1.length co21) := (blk_cell BK36010.out 1).trans rfl
                          have hfs72 := blk_frozen BK36010.out 1
                          have hns72_0 := NB36001_36010.out
                          have hns72_1 := NB36002_36010.out
                          have hms72_0 := NB36010_36001.out
                          have hms72_1 := NB36010_36002.out
                          have hs74 : w69.cell? ⟨gb36010, 2, none⟩ = some (.slice Ao22 x36003002_1.length co22) := (blk_cell BK36010.out 2).trans rfl
                          have hfs74 := blk_frozen BK36010.out 2
                          have hns74_0 := NB36001_36010.out
                          have hns74_1 := NB36002_36010.out
                          have hms74_0 := NB36010_36001.out
                          have hms74_1 := NB36010_36002.out
                          refine skip_ (w1 := ?_) (by rfl) rfl ?_ ?_
                          rotate_left
                          · go_simp
                            rfl
                          refine hK.out _ _ ⟨((cell_far (p := ⟨gb36010, _, none⟩) NB36002_36010.out _).trans (((cell_far (p := ⟨gb36010, _, none⟩) NB36002_36010.out _).trans (((cell_far (p := ⟨gb36010, _, none⟩) NB36002_36010.out _).trans (hHeld.1)))))), ((cell_far (p := ⟨gb36010, _, none⟩) NB36002_36010.out _).trans (((cell_far (p := ⟨gb36010, _, none⟩) NB36002_36010.out _).trans (((cell_far (p := ⟨gb36010, _, none⟩) NB36002_36010.out _).trans (hHeld.2.1)))))), ((cell_far (p := ⟨gb36010, _, none⟩) NB36002_36010.out _).trans (((cell_far (p := ⟨gb36010, _, none⟩) NB36002_36010.out _).trans (((cell_far (p := ⟨gb36010, _, none⟩) NB36002_36010.out _).trans (hHeld.2.2))))))⟩ (fun hHeld => ?_)
                          clear hK K
                          refine pure_ (i := 10) (N := some 11) (v := ?_) (a' := ?_) #[true, true, true, true, true, true, true, true, true, true, true, false] rfl rfl (any_of HT_.out (by kernel_rfl)) (fun _ _ _ h => h) (Or.inl ⟨by rfl, ?_⟩) ?_ ?_
                          rotate_left
                          · intro w'
                            go_simp
                            with_reducible rfl
                          rotate_left
                          · simp only [Act.put, List.setIfInBounds_toArray, List.set_cons_zero, List.set_cons_succ, i64_w, i32_w]
                            rfl
                          refine pure_ (i := 11) (N := some 12) (v := ?_) (a' := ?_) #[true, true, true, true, true, true, true, true, true, true, true, true] rfl rfl (any_of HT_.out (by kernel_rfl)) (fun _ _ _ h => h) (Or.inl ⟨by rfl, ?_⟩) ?_ ?_
                          rotate_left
                          · intro w'
                            go_simp
                            with_reducible rfl
                          rotate_left
                          · simp only [Act.put, List.setIfInBounds_toArray, List.set_cons_zero, List.set_cons_succ, i64_w, i32_w]
                            rfl
                          refine done_ (done_of HT_.out (by kernel_rfl)) ?_
                          try go_wp2
                          go_meet
                          case rel => exact ⟨_, (x7_1), (x8_1), (t36031), (t36022), (t36023), (t36024), (t36027), (.slice Ao71 t36024.length co71), (.slice Ao73 t36027.length co73), (by first | rfl | (simp; done) | (simp [*]; done)), (by first | rfl | (simp; done) | (simp [*]; done)), (by first | rfl | (simp; done) | (simp [*]; done)), H', ⟨by have := HK1.out; have := HJ24.out; have := HJ43.out; first | omega | exact Nat.le_refl _⟩, ⟨Kd.R_ext (Kd.R_mono (Kd.R_far (p := ⟨gb36010, 2, none⟩) (Kd.R_far (p := ⟨gb36010, 1, none⟩) (Kd.R_far (p := ⟨gb36010, 0, none⟩) (Kd.R_types HO_36003001.out BK36010.out (by decide)) (fun _ hk => hk.2) (.int .i64 t36023)) (fun _ hk => hk.2) (.slice Ao71 t36024.length co71)) (fun _ hk => hk.2) (.slice Ao73 t36027.length co73)) (fun _ hk => ⟨hk.1.1.1.1, hk.1.2⟩))⟩, ⟨Kd.R_ext (Kd.R_mono (Kd.R_far (p := ⟨gb36010, 2, none⟩) (Kd.R_far (p := ⟨gb36010, 1, none⟩) (Kd.R_far (p := ⟨gb36010, 0, none⟩) (Kd.R_types HO_36003002.out BK36010.out (by decide)) (fun _ hk => hk.2) (.int .i64 t36023)) (fun _ hk => hk.2) (.slice Ao71 t36024.length co71)) (fun _ hk => hk.2) (.slice Ao73 t36027.length co73)) (fun _ hk => ⟨hk.1.1.1.1, hk.1.1.2⟩))⟩, ⟨Kd.R_ext (Kd.R_mono (Kd.R_far (p := ⟨gb36010, 2, none⟩) (Kd.R_far (p := ⟨gb36010, 1, none⟩) (Kd.R_far (p := ⟨gb36010, 0, none⟩) (Kd.R_types HO36026.out BK36010.out (by decide)) (fun _ hk => hk.2) (.int .i64 t36023)) (fun _ hk => hk.2) (.slice Ao71 t36024.length co71)) (fun _ hk => hk.2) (.slice Ao73 t36027.length co73)) (fun _ hk => ⟨hk.1.1.1.2, hk.1.1.1.1.1⟩))⟩, ⟨Kd.R_ext (Kd.R_mono (Kd.R_far (p := ⟨gb36010, 2, none⟩) (Kd.R_far (p := ⟨gb36010, 1, none⟩) (Kd.R_far (p := ⟨gb36010, 0, none⟩) (Kd.R_types HO36029.out BK36010.out (by decide)) (fun _ hk => hk.2) (.int .i64 t36023)) (fun _ hk => hk.2) (.slice Ao71 t36024.length co71)) (fun _ hk => hk.2) (.slice Ao73 t36027.length co73)) (fun _ hk => ⟨hk.1.1.1.1.2, hk.1.1.1.1.1⟩))⟩, ⟨blk_extC BK36001.out⟩, ⟨blk_extC BK36002.out⟩, ⟨by (with_reducible repeat (first | refine blk_drewN ?_ _ | refine blk_drew ?_ | refine blk_alloc ?_ _)); refine blk_put (cs := #[.int .i64 t36023, .slice Ao71 t36024.length co71, .slice Ao22 x36003002_1.length co22]) ?_ 2 _ rfl; (with_reducible repeat (first | refine blk_drewN ?_ _ | refine blk_drew ?_ | refine blk_alloc ?_ _)); refine blk_put (cs := #[.int .i64 t36023, .slice Ao21 x36003001_1.length co21, .slice Ao22 x36003002_1.length co22]) ?_ 1 _ rfl; (with_reducible repeat (first | refine blk_drewN ?_ _ | refine blk_drew ?_ | refine blk_alloc ?_ _)); refine blk_put (cs := #[.int .i64 x36003000_1, .slice Ao21 x36003001_1.length co21, .slice Ao22 x36003002_1.length co22]) ?_ 0 _ rfl; exact blk_ext BK36010.out⟩, ⟨by repeat (first | (with_reducible first | exact HI36007.out | apply IsS79.alloc | apply IsS79.drewN | apply IsS79.drew | apply IsS79.set_1 | refine IsS79.far ?_ NB36007_36001.out _ | refine IsS79.far ?_ NB36007_36002.out _ | refine IsS79.far ?_ NB36007_36010.out _) | exact HI36007.out)⟩, ⟨by repeat (first | (with_reducible first | exact HB.out | apply bA | apply bN | apply b1 | refine bS ?_ (IsS79.ge HI36007.out) | refine bS ?_ GE36001.out | refine bS ?_ GE36002.out | refine bS ?_ GE36010.out) | exact HB.out)⟩⟩
                      · replace c46 := Bool.eq_false_iff.mpr c46
                        subst c46
                        have H1 : (if t36011 = 5 then ((customsmade_Source_Next.f t36005 t36012 20).bind fun bt36032 => ((channel_Lose.f x36003000_1 x36003001_1 x36003002_1 bt36032.1).bind fun bt36034 => (customslaw38_play.j3 kj43 x7_1 x8_1 bt36034.2.2.2 x36003000_1 x36003001_1 x36003002_1 t36005 bt36032.2 bt36034.1 bt36034.2.1 bt36034.2.2.1))) else (if t36011 = 6 then ((customsmade_Source_Next.f t36005 t36012 20).bind fun bt36042 => ((channel_Repeat.f x36003000_1 x36003001_1 x36003002_1 bt36042.1).bind fun bt36044 => (customslaw38_play.j3 kj43 x7_1 x8_1 bt36044.2.2.2 x36003000_1 x36003001_1 x36003002_1 t36005 bt36042.2 bt36044.1 bt36044.2.1 bt36044.2.2.1))) else ((customsmade_Source_Next.f t36005 t36012 3).bind fun bt36052 => (if bt36052.1 = 0 then ((customsmade_Source_Next.f t36005 bt36052.2 20).bind fun bt36054 => ((channel_Forget.f x36003000_1 x36003001_1 x36003002_1 bt36054.1).bind fun bt36056 => (customslaw38_play.j3 kj43 x7_1 x8_1 bt36056.2.2.2 x36003000_1 x36003001_1 x36003002_1 t36005 bt36054.2 bt36056.1 bt36056.2.1 bt36056.2.2.1))) else ((customsmade_Source_Next.f t36005 bt36052.2 20).bind fun bt36064 => ((channel_Confirm.f x36003000_1 x36003001_1 x36003002_1 bt36064.1).bind fun bt36066 => (customslaw38_play.j3 kj43 x7_1 x8_1 bt36066.2.2.2 x36003000_1 x36003001_1 x36003002_1 t36005 bt36064.2 bt36066.1 bt36066.2.1 bt36066.2.2.1))))))) = some (r1, r2, r3, r4, r5, r6) := by rw [if_neg (show ¬ (false = true) by decide)] at H; exact H
                        clear H
                        have H := H1
                        clear H1
                        by_cases c75 : t36011 = 5
                        · rw [if_pos c75] at H
                          have c75b0 : (t36011 == 5) = true := beq_iff_eq.mpr c75
                          have c75b1 : (t36011 != 5) = false := bne_eq_false_iff_eq.mpr c75
                          clear c75
                          replace H := Option.bind_eq_some_iff.mp H
                          obtain ⟨⟨t36032, t36033⟩, A760, H⟩ := H
                          replace H : ((channel_Lose.f x36003000_1 x36003001_1 x36003002_1 t36032).bind fun bt36034 => (customslaw38_play.j3 kj43 x7_1 x8_1 bt36034.2.2.2 x36003000_1 x36003001_1 x36003002_1 t36005 t36033 bt36034.1 bt36034.2.1 bt36034.2.2.1)) = some (r1, r2, r3, r4, r5, r6) := H
                          have A76 := Aside0.mk A760
                          clear A760
                          replace H := Option.bind_eq_some_iff.mp H
                          obtain ⟨⟨t36034, t36035, t36038, t36041⟩, A770, H⟩ := H
                          replace H : (customslaw38_play.j3 kj43 x7_1 x8_1 t36041 x36003000_1 x36003001_1 x36003002_1 t36005 t36033 t36034 t36035 t36038) = some (r1, r2, r3, r4, r5, r6) := H
                          have A77 := Aside0.mk A770
                          clear A770
                          have H' := Aside0.mk H
                          clear H
                          try go_wp2
                          have n0_ := Aside0.mk (Kd.R_drew HO_36003001.out)
                          have n1_ := Aside0.mk (Kd.R_drew HO_36003002.out)
                          have n2_ := Aside0.mk (Kd.R_drew HO_36011001.out)
                          have n3_ := Aside0.mk (Kd.R_drew HO_36011002.out)
                          have n4_ := Aside0.mk (blk_drew BK36001.out)
                          have n5_ := Aside0.mk (blk_drew BK36002.out)
                          have n6_ := Aside0.mk (blk_drew BK36010.out)
                          have n7_ := Aside0.mk (IsS79.drew HI36007.out)
                          have n8_ := Aside0.mk (below_drew1 HB.out)
                          clear HO_36003001
                          clear HO_36003002
                          clear HO_36011001
                          clear HO_36011002
                          clear BK36001
                          clear BK36002
                          clear BK36010
                          clear HI36007
                          clear HB
                          have HO_36003001 := n0_
                          have HO_36003002 := n1_
                          have HO_36011001 := n2_
                          have HO_36011002 := n3_
                          have BK36001 := n4_
                          have BK36002 := n5_
                          have BK36010 := n6_
                          have HI36007 := n7_
                          have HB := n8_
                          clear n0_ n1_ n2_ n3_ n4_ n5_ n6_ n7_ n8_
                          refine start_ (n := 9) (S := fun w' => w'.cell? ⟨gb36002, 0, none⟩ = some (.int .i64 x36003000_1) ∧ w'.cell? ⟨gb36002, 1, none⟩ = some (.slice Ao21 x36003001_1.length co21) ∧ w'.cell? ⟨gb36002, 2, none⟩ = some (.slice Ao22 x36003002_1.length co22)) (ds := []) #[false, false, false, false, false, false, false, false, false] (by kernel_rfl) rfl rfl ⟨(blk_cell BK36002.out 0).trans rfl, (blk_cell BK36002.out 1).trans rfl, (blk_cell BK36002.out 2).trans rfl⟩ (fun hHeld => ?_); refine with_tabW customslaw38_play.tab22 customslaw38_play.bits22 (fun HT_ HW_ => ?_)
                          generalize wc.drew = w78 at HO_36003001 HO_36003002 HO_36011001 HO_36011002 BK36001 BK36002 BK36010 HI36007 HB hHeld ⊢
                          refine pure_ (i := 1) (N := some 81) (v := ?_) (a' := ?_) #[false, true, false, false, false, false, false, false, false] rfl rfl (any_of HT_.out (by kernel_rfl)) (fun _ _ _ h => h) (Or.inl ⟨by rfl, ?_⟩) ?_ ?_
                          rotate_left
                          · intro w'
                            go_simp
                            with_reducible rfl
                          rotate_left
                          · simp only [Act.put, List.setIfInBounds_toArray, List.set_cons_zero, List.set_cons_succ, i64_w, i32_w]
                            rfl
                          refine take_ (i := 0) (N := some 80) (v := ?_) (a' := ?_) #[true, true, false, false, false, false, false, false, false] rfl rfl (take_ofW HT_.out HW_.out (by kernel_rfl)) (fun _ _ _ h => h) (Or.inl ⟨by rfl, ?_⟩) hHeld ?_ ?_
                          rotate_left
                          · rintro w' ⟨s0, s1, s2⟩
                            go_simp
                            with_reducible rfl
                          rotate_left
                          · simp only [Act.put, List.setIfInBounds_toArray, List.set_cons_zero, List.set_cons_succ, i64_w, i32_w]
                            rfl
                          refine one_ (i := 2) (N := some 82) #[true, true, true, false, false, false, false, false, false] rfl rfl (one_of HT_.out (by kernel_rfl)) (by decide) (fun K hK => ?_)
                          refine goes_ Try.func69 (by kernel_rfl) rfl #[.pointer (some ⟨g36007, 0, none⟩), .int .i64 20] (by rfl) rfl rfl (by (try simp only [List.map_toArray, List.map_cons, List.map_nil]); first | done | rfl | (simp only [List.length_drop, List.length_take]; rfl)) ?_
                          with_reducible refine (customsmade_Source_Next.calls g36007 t36005 t36012 20 t36032 t36033 w _ ?side1 ?side2 A76.out).mono ?_
                          (case side1 => repeat (first | (with_reducible first | exact HI36007.out | apply IsS79.alloc | apply IsS79.drewN | apply IsS79.drew | apply IsS79.set_1 | refine IsS79.far ?_ NB36007_36001.out _ | refine IsS79.far ?_ NB36007_36002.out _ | refine IsS79.far ?_ NB36007_36010.out _) | exact HI36007.out))
                          (case side2 => repeat (first | (with_reducible first | exact HB.out | apply bA | apply bN | apply b1 | refine bS ?_ (IsS79.ge HI36007.out) | refine bS ?_ GE36001.out | refine bS ?_ GE36002.out | refine bS ?_ GE36010.out) | exact HB.out))
                          rintro e w79 ⟨rfl, hi, hb, hk⟩
                          refine ⟨_, rfl, ?_⟩
                          have n0_ := Aside0.mk (Kd.R_mono (Kd.R_keep (IsS79.apart (show IsS79 w _ g36007 t36005 t36012 from by repeat (first | (with_reducible first | exact HI36007.out | apply IsS79.alloc | apply IsS79.drewN | apply IsS79.drew | apply IsS79.set_1 | refine IsS79.far ?_ NB36007_36001.out _ | refine IsS79.far ?_ NB36007_36002.out _ | refine IsS79.far ?_ NB36007_36010.out _) | exact HI36007.out)) (Kd.R_ext HO_36003001.out) (by decide)) hk (fun _ h => h.2)) (fun _ h => h.1))
                          have n1_ := Aside0.mk (Kd.R_mono (Kd.R_keep (IsS79.apart (show IsS79 w _ g36007 t36005 t36012 from by repeat (first | (with_reducible first | exact HI36007.out | apply IsS79.alloc | apply IsS79.drewN | apply IsS79.drew | apply IsS79.set_1 | refine IsS79.far ?_ NB36007_36001.out _ | refine IsS79.far ?_ NB36007_36002.out _ | refine IsS79.far ?_ NB36007_36010.out _) | exact HI36007.out)) (Kd.R_ext HO_36003002.out) (by decide)) hk (fun _ h => h.2)) (fun _ h => h.1))
                          have n2_ := Aside0.mk (Kd.R_mono (Kd.R_keep (IsS79.apart (show IsS79 w _ g36007 t36005 t36012 from by repeat (first | (with_reducible first | exact HI36007.out | apply IsS79.alloc | apply IsS79.drewN | apply IsS79.drew | apply IsS79.set_1 | refine IsS79.far ?_ NB36007_36001.out _ | refine IsS79.far ?_ NB36007_36002.out _ | refine IsS79.far ?_ NB36007_36010.out _) | exact HI36007.out)) (Kd.R_ext HO_36011001.out) (by decide)) hk (fun _ h => h.2)) (fun _ h => h.1))
                          have n3_ := Aside0.mk (Kd.R_mono (Kd.R_keep (IsS79.apart (show IsS79 w _ g36007 t36005 t36012 from by repeat (first | (with_reducible first | exact HI36007.out | apply IsS79.alloc | apply IsS79.drewN | apply IsS79.drew | apply IsS79.set_1 | refine IsS79.far ?_ NB36007_36001.out _ | refine IsS79.far ?_ NB36007_36002.out _ | refine IsS79.far ?_ NB36007_36010.out _) | exact HI36007.out)) (Kd.R_ext HO_36011002.out) (by decide)) hk (fun _ h => h.2)) (fun _ h => h.1))
                          have n4_ := Aside0.mk (KeepBut.blk hk (g' := gb36001) (o := .cells #[.int .i64 x36002000_1, .slice none 0 0, .slice none 0 0] 44 (0, 0)) (blk_ext BK36001.out) NB36001_36007.out (by simp))
                          have n5_ := Aside0.mk (KeepBut.blk hk (g' := gb36002) (o := .cells #[.int .i64 x36003000_1, .slice Ao21 x36003001_1.length co21, .slice Ao22 x36003002_1.length co22] 44 (0, 0)) (blk_ext BK36002.out) NB36002_36007.out (by simp))
                          have n6_ := Aside0.mk (KeepBut.blk hk (g' := gb36010) (o := .cells #[.int .i64 x36003000_1, .slice Ao21 x36003001_1.length co21, .slice Ao22 x36003002_1.length co22] 44 (0, 0)) (blk_ext BK36010.out) NB36010_36007.out (by simp))
                          have n7_ := Aside0.mk (hb)
                          have n8_ := Aside0.mk (hi)
                          clear HO_36003001
                          clear HO_36003002
                          clear HO_36011001
                          clear HO_36011002
                          clear BK36001
                          clear BK36002
                          clear BK36010
                          clear HB
                          clear HI36007
                          have HO_36003001 := n0_
                          have HO_36003002 := n1_
                          have HO_36011001 := n2_
                          have HO_36011002 := n3_
                          have BK36001 := n4_
                          have BK36002 := n5_
                          have BK36010 := n6_
                          have HB := n7_
                          have HI36007 := n8_
                          clear n0_ n1_ n2_ n3_ n4_ n5_ n6_ n7_ n8_
                          (try clear hb)
                          (try clear hb2)
                          (try clear hk)
                          (try clear hi)
                          refine hK.out _ _ ⟨(blk_cell BK36002.out 0).trans rfl, (blk_cell BK36002.out 1).trans rfl, (blk_cell BK36002.out 2).trans rfl⟩ (fun hHeld => ?_)
                          clear hK K
                          refine norm_ (a' := ?_) ?_ ?_
                          rotate_left
                          · show Act.put _ (some 82) _ = _
                            simp only [Act.put, List.setIfInBounds_toArray, List.set_cons_zero, List.set_cons_succ, i64_w, i32_w]
                            rfl
                          refine one_ (i := 3) (N := some 83) #[true, true, true, true, false, false, false, false, false] rfl rfl (one_of HT_.out (by kernel_rfl)) (by decide) (fun K hK => ?_)
                          refine goes_ Try.func41 (by kernel_rfl) rfl #[.agg #[.int .i64 x36003000_1, .slice Ao21 x36003001_1.length co21, .slice Ao22 x36003002_1.length co22], .int .i64 t36032] (by rfl) rfl rfl (by (try simp only [List.map_toArray, List.map_cons, List.map_nil]); first | done | rfl | (simp only [List.length_drop, List.length_take]; rfl)) ?_
                          with_reducible refine (channel_Lose.calls x36003000_1 _ _ x36003001_1 _ _ x36003002_1 t36032 t36034 t36035 t36038 t36041 _ ?side1 ?side2 ?side3 ?side4 A77.out).mono ?_
                          (case side1 => exact Kd.C_ext (Kd.R_reads' HO_36003001.out).2.2)
                          (case side2 => exact (Kd.R_reads' HO_36003001.out).2.1)
                          (case side3 => exact Kd.C_ext (Kd.R_reads' HO_36003002.out).2.2)
                          (case side4 => exact (Kd.R_reads' HO_36003002.out).2.1)
                          rintro e w80 ⟨v36036, v36039, rfl, ho0, ho1, hb⟩
                          refine ⟨_, rfl, ?_⟩
                          have n4_ := Aside0.mk (Kd.R_lower (Kd.R_new' (Kd.R_new' (Kd.R_new' (Kd.R_new' ho0 (Kd.R_lt (Kd.R_ext HO_36003001.out))) (Kd.R_lt (Kd.R_ext HO_36003002.out))) (Kd.R_lt (Kd.R_ext HO_36011001.out))) (Kd.R_lt (Kd.R_ext HO_36011002.out))) (below_size (by repeat (first | (with_reducible first | exact HB.out | apply bA | apply bN | apply b1 | refine bS ?_ (IsS79.ge HI36007.out) | refine bS ?_ GE36001.out | refine bS ?_ GE36002.out | refine bS ?_ GE36010.out) | exact HB.out))))
                          have n5_ := Aside0.mk (Kd.R_lower (Kd.R_new' (Kd.R_new' (Kd.R_new' (Kd.R_new' ho1 (Kd.R_lt (Kd.R_ext HO_36003001.out))) (Kd.R_lt (Kd.R_ext HO_36003002.out))) (Kd.R_lt (Kd.R_ext HO_36011001.out))) (Kd.R_lt (Kd.R_ext HO_36011002.out))) (below_size (by repeat (first | (with_reducible first | exact HB.out | apply bA | apply bN | apply b1 | refine bS ?_ (IsS79.ge HI36007.out) | refine bS ?_ GE36001.out | refine bS ?_ GE36002.out | refine bS ?_ GE36010.out) | exact HB.out))))
                          have n9_ := Aside0.mk (IsS79.below (by repeat (first | (with_reducible first | exact HI36007.out | apply IsS79.alloc | apply IsS79.drewN | apply IsS79.drew | apply IsS79.set_1 | refine IsS79.far ?_ NB36007_36001.out _ | refine IsS79.far ?_ NB36007_36002.out _ | refine IsS79.far ?_ NB36007_36010.out _) | exact HI36007.out)) hb)
                          have n10_ := Aside0.mk (below_step (by repeat (first | (with_reducible first | exact HB.out | apply bA | apply bN | apply b1 | refine bS ?_ (IsS79.ge HI36007.out) | refine bS ?_ GE36001.out | refine bS ?_ GE36002.out | refine bS ?_ GE36010.out) | exact HB.out)) hb)
                          clear HI36007
                          clear HB
                          have HO36037 := n4_
                          have HO36040 := n5_
                          have HI36007 := n9_
                          have HB := n10_
                          replace HO_36003001 := tdR2 HO_36003001 hb (Kd.R_base ho0) (Kd.R_base ho1)
                          replace HO_36003002 := tdR2 HO_36003002 hb (Kd.R_base ho0) (Kd.R_base ho1)
                          replace HO_36011001 := tdR2 HO_36011001 hb (Kd.R_base ho0) (Kd.R_base ho1)
                          replace HO_36011002 := tdR2 HO_36011002 hb (Kd.R_base ho0) (Kd.R_base ho1)
                          replace BK36001 := mvB BK36001 hb
                          replace BK36002 := mvB BK36002 hb
                          replace BK36010 := mvB BK36010 hb
                          clear n4_ n5_ n9_ n10_
                          (try clear hb)
                          (try clear hb2)
                          (try clear hk)
                          (try clear hi)
                          (try clear ho0)
                          (try clear ho1)
                          obtain ⟨Ao82, co82, eo82⟩ := Kd.R_slice HO36037.out
                          (first | subst eo82 | (injection eo82 with f1_ f2_ f3_; have f4_ := f1_.symm; have f5_ := f3_.symm; clear f1_ f2_ f3_; subst f4_; subst f5_))
                          obtain ⟨Ao84, co84, eo84⟩ := Kd.R_slice HO36040.out
                          (first | subst eo84 | (injection eo84 with f1_ f2_ f3_; have f4_ := f1_.symm; have f5_ := f3_.symm; clear f1_ f2_ f3_; subst f4_; subst f5_))
                          refine hK.out _ _ ⟨(blk_cell BK36002.out 0).trans rfl, (blk_cell BK36002.out 1).trans rfl, (blk_cell BK36002.out 2).trans rfl⟩ (fun hHeld => ?_)
                          clear hK K
                          refine norm_ (a' := ?_) ?_ ?_
                          rotate_left
                          · show Act.put _ (some 83) _ = _
                            simp only [Act.put, List.setIfInBounds_toArray, List.set_cons_zero, List.set_cons_succ, i64_w, i32_w]
                            rfl
                          refine pure_ (i := 4) (N := some 79) (v := ?_) (a' := ?_) #[true, true, true, true, true, false, false, false, false] rfl rfl (any_of HT_.out (by kernel_rfl)) (fun _ _ _ h => h) (Or.inl ⟨by rfl, ?_⟩) ?_ ?_
                          rotate_left
                          · intro w'
                            go_simp
                            with_reducible rfl
                          rotate_left
                          · simp only [Act.put, List.setIfInBounds_toArray, List.set_cons_zero, List.set_cons_succ, i64_w, i32_w]
                            rfl
                          refine pure_ (i := 5) (N := some 84) (v := ?_) (a' := ?_) #[true, true, true, true, true, true, false, false, false] rfl rfl (any_of HT_.out (by kernel_rfl)) (fun _ _ _ h => h) (Or.inl ⟨by rfl, ?_⟩) ?_ ?_
                          rotate_left
                          · intro w'
                            go_simp
                            with_reducible rfl
                          rotate_left
                          · simp only [Act.put, List.setIfInBounds_toArray, List.set_cons_zero, List.set_cons_succ, i64_w, i32_w]
                            rfl
                          refine pure_ (i := 6) (N := some 85) (v := ?_) (a' := ?_) #[true, true, true, true, true, true, true, false, false] rfl rfl (any_of HT_.out (by kernel_rfl)) (fun _ _ _ h => h) (Or.inl ⟨by rfl, ?_⟩) ?_ ?_
                          rotate_left
                          · intro w'
                            go_simp
                            with_reducible rfl
                          rotate_left
                          · simp only [Act.put, List.setIfInBounds_toArray, List.set_cons_zero, List.set_cons_succ, i64_w, i32_w]
                            rfl
                          refine one_ (i := 7) (N := none) #[true, true, true, true, true, true, true, true, false] rfl rfl (one_of HT_.out (by kernel_rfl)) (by decide) (fun K hK => ?_)
                          have hs81 : w80.cell? ⟨gb36010, 0, none⟩ = some (.int .i64 x36003000_1) := (blk_cell BK36010.out 0).trans rfl
                          have hfs81 := blk_frozen BK36010.out 0
                          have hns81_0 := NB36001_36010.out
                          have hns81_1 := NB36002_36010.out
                          have hms81_0 := NB36010_36001.out
                          have hms81_1 := NB36010_36002.out
                          have hs83 : w80.cell? ⟨gb36010, 1, none⟩ = some (.slice Ao21 x36003001_1.length co21) := (blk_cell BK36010.out 1).trans rfl
                          have hfs83 := blk_frozen BK36010.out 1
                          have hns83_0 := NB36001_36010.out
                          have hns83_1 := NB36002_36010.out
                          have hms83_0 := NB36010_36001.out
                          have hms83_1 := NB36010_36002.out
                          have hs85 : w80.cell? ⟨gb36010, 2, none⟩ = some (.slice Ao22 x36003002_1.length co22) := (blk_cell BK36010.out 2).trans rfl
                          have hfs85 := blk_frozen BK36010.out 2
                          have hns85_0 := NB36001_36010.out
                          have hns85_1 := NB36002_36010.out
                          have hms85_0 := NB36010_36001.out
                          have hms85_1 := NB36010_36002.out
                          refine skip_ (w1 := ?_) (by rfl) rfl ?_ ?_
                          rotate_left
                          · go_simp
                            rfl
                          refine hK.out _ _ ⟨((cell_far (p := ⟨gb36010, _, none⟩) NB36002_36010.out _).trans (((cell_far (p := ⟨gb36010, _, none⟩) NB36002_36010.out _).trans (((cell_far (p := ⟨gb36010, _, none⟩) NB36002_36010.out _).trans (hHeld.1)))))), ((cell_far (p := ⟨gb36010, _, none⟩) NB36002_36010.out _).trans (((cell_far (p := ⟨gb36010, _, none⟩) NB36002_36010.out _).trans (((cell_far (p := ⟨gb36010, _, none⟩) NB36002_36010.out _).trans (hHeld.2.1)))))), ((cell_far (p := ⟨gb36010, _, none⟩) NB36002_36010.out _).trans (((cell_far (p := ⟨gb36010, _, none⟩) NB36002_36010.out _).trans (((cell_far (p := ⟨gb36010, _, none⟩) NB36002_36010.out _).trans (hHeld.2.2))))))⟩ (fun hHeld => ?_)
                          clear hK K
                          refine pure_ (i := 8) (N := some 12) (v := ?_) (a' := ?_) #[true, true, true, true, true, true, true, true, true] rfl rfl (any_of HT_.out (by kernel_rfl)) (fun _ _ _ h => h) (Or.inl ⟨by rfl, ?_⟩) ?_ ?_
                          rotate_left
                          · intro w'
                            go_simp
                            with_reducible rfl
                          rotate_left
                          · simp only [Act.put, List.setIfInBounds_toArray, List.set_cons_zero, List.set_cons_succ, i64_w, i32_w]
                            rfl
                          refine done_ (done_of HT_.out (by kernel_rfl)) ?_
                          try go_wp2
                          go_meet
                          case rel => exact ⟨_, (x7_1), (x8_1), (t36041), (t36033), (t36034), (t36035), (t36038), (.slice Ao82 t36035.length co82), (.slice Ao84 t36038.length co84), (by first | rfl | (simp; done) | (simp [*]; done)), (by first | rfl | (simp; done) | (simp [*]; done)), (by first | rfl | (simp; done) | (simp [*]; done)), H', ⟨by have := HK1.out; have := HJ24.out; have := HJ43.out; first | omega | exact Nat.le_refl _⟩, ⟨Kd.R_ext (Kd.R_mono (Kd.R_far (p := ⟨gb36010, 2, none⟩) (Kd.R_far (p := ⟨gb36010, 1, none⟩) (Kd.R_far (p := ⟨gb36010, 0, none⟩) (Kd.R_types HO_36003001.out BK36010.out (by decide)) (fun _ hk => hk.2) (.int .i64 t36034)) (fun _ hk => hk.2) (.slice Ao82 t36035.length co82)) (fun _ hk => hk.2) (.slice Ao84 t36038.length co84)) (fun _ hk => ⟨hk.1.1.1.1, hk.1.2⟩))⟩, ⟨Kd.R_ext (Kd.R_mono (Kd.R_far (p := ⟨gb36010, 2, none⟩) (Kd.R_far (p := ⟨gb36010, 1, none⟩) (Kd.R_far (p := ⟨gb36010, 0, none⟩) (Kd.R_types HO_36003002.out BK36010.out (by decide)) (fun _ hk => hk.2) (.int .i64 t36034)) (fun _ hk => hk.2) (.slice Ao82 t36035.length co82)) (fun _ hk => hk.2) (.slice Ao84 t36038.length co84)) (fun _ hk => ⟨hk.1.1.1.1, hk.1.1.2⟩))⟩, ⟨Kd.R_ext (Kd.R_mono (Kd.R_far (p := ⟨gb36010, 2, none⟩) (Kd.R_far (p := ⟨gb36010, 1, none⟩) (Kd.R_far (p := ⟨gb36010, 0, none⟩) (Kd.R_types HO36037.out BK36010.out (by decide)) (fun _ hk => hk.2) (.int .i64 t36034)) (fun _ hk => hk.2) (.slice Ao82 t36035.length co82)) (fun _ hk => hk.2) (.slice Ao84 t36038.length co84)) (fun _ hk => ⟨hk.1.1.1.2, hk.1.1.1.1.1⟩))⟩, ⟨Kd.R_ext (Kd.R_mono (Kd.R_far (p := ⟨gb36010, 2, none⟩) (Kd.R_far (p := ⟨gb36010, 1, none⟩) (Kd.R_far (p := ⟨gb36010, 0, none⟩) (Kd.R_types HO36040.out BK36010.out (by decide)) (fun _ hk => hk.2) (.int .i64 t36034)) (fun _ hk => hk.2) (.slice Ao82 t36035.length co82)) (fun _ hk => hk.2) (.slice Ao84 t36038.length co84)) (fun _ hk => ⟨hk.1.1.1.1.2, hk.1.1.1.1.1⟩))⟩, ⟨blk_extC BK36001.out⟩, ⟨blk_extC BK36002.out⟩, ⟨by (with_reducible repeat (first | refine blk_drewN ?_ _ | refine blk_drew ?_ | refine blk_alloc ?_ _)); refine blk_put (cs := #[.int .i64 t36034, .slice Ao82 t36035.length co82, .slice Ao22 x36003002_1.length co22]) ?_ 2 _ rfl; (with_reducible repeat (first | refine blk_drewN ?_ _ | refine blk_drew ?_ | refine blk_alloc ?_ _)); refine blk_put (cs := #[.int .i64 t36034, .slice Ao21 x36003001_1.length co21, .slice Ao22 x36003002_1.length co22]) ?_ 1 _ rfl; (with_reducible repeat (first | refine blk_drewN ?_ _ | refine blk_drew ?_ | refine blk_alloc ?_ _)); refine blk_put (cs := #[.int .i64 x36003000_1, .slice Ao21 x36003001_1.length co21, .slice Ao22 x36003002_1.length co22]) ?_ 0 _ rfl; exact blk_ext BK36010.out⟩, ⟨by repeat (first | (with_reducible first | exact HI36007.out | apply IsS79.alloc | apply IsS79.drewN | apply IsS79.drew | apply IsS79.set_1 | refine IsS79.far ?_ NB36007_36001.out _ | refine IsS79.far ?_ NB36007_36002.out _ | refine IsS79.far ?_ NB36007_36010.out _) | exact HI36007.out)⟩, ⟨by repeat (first | (with_reducible first | exact HB.out | apply bA | apply bN | apply b1 | refine bS ?_ (IsS79.ge HI36007.out) | refine bS ?_ GE36001.out | refine bS ?_ GE36002.out | refine bS ?_ GE36010.out) | exact HB.out)⟩⟩
                        · rw [if_neg c75] at H
                          have c75b0 : (t36011 == 5) = false := beq_eq_false_iff_ne.mpr c75
                          have c75b1 : (t36011 != 5) = true := bne_iff_ne.mpr c75
                          by_cases c86 : t36011 = 6
                          · rw [if_pos c86] at H
                            have c86b0 : (t36011 == 6) = true := beq_iff_eq.mpr c86
                            have c86b1 : (t36011 != 6) = false := bne_eq_false_iff_eq.mpr c86
                            clear c86
                            replace H := Option.bind_eq_some_iff.mp H
                            obtain ⟨⟨t36042, t36043⟩, A870, H⟩ := H
                            replace H : ((channel_Repeat.f x36003000_1 x36003001_1 x36003002_1 t36042).bind fun bt36044 => (customslaw38_play.j3 kj43 x7_1 x8_1 bt36044.2.2.2 x36003000_1 x36003001_1 x36003002_1 t36005 t36043 bt36044.1 bt36044.2.1 bt36044.2.2.1)) = some (r1, r2, r3, r4, r5, r6) := H
                            have A87 := Aside0.mk A870
                            clear A870
                            replace H := Option.bind_eq_some_iff.mp H
                            obtain ⟨⟨t36044, t36045, t36048, t36051⟩, A880, H⟩ := H
                            replace H : (customslaw38_play.j3 kj43 x7_1 x8_1 t36051 x36003000_1 x36003001_1 x36003002_1 t36005 t36043 t36044 t36045 t36048) = some (r1, r2, r3, r4, r5, r6) := H
                            have A88 := Aside0.mk A880
                            clear A880
                            have H' := Aside0.mk H
                            clear H
                            try go_wp2
                            have n0_ := Aside0.mk (Kd.R_drew HO_36003001.out)
                            have n1_ := Aside0.mk (Kd.R_drew HO_36003002.out)
                            have n2_ := Aside0.mk (Kd.R_drew HO_36011001.out)
                            have n3_ := Aside0.mk (Kd.R_drew HO_36011002.out)
                            have n4_ := Aside0.mk (blk_drew BK36001.out)
                            have n5_ := Aside0.mk (blk_drew BK36002.out)
                            have n6_ := Aside0.mk (blk_drew BK36010.out)
                            have n7_ := Aside0.mk (IsS79.drew HI36007.out)
                            have n8_ := Aside0.mk (below_drew1 HB.out)
                            clear HO_36003001
                            clear HO_36003002
                            clear HO_36011001
                            clear HO_36011002
                            clear BK36001
                            clear BK36002
                            clear BK36010
                            clear HI36007
                            clear HB
                            have HO_36003001 := n0_
                            have HO_36003002 := n1_
                            have HO_36011001 := n2_
                            have HO_36011002 := n3_
                            have BK36001 := n4_
                            have BK36002 := n5_
                            have BK36010 := n6_
                            have HI36007 := n7_
                            have HB := n8_
                            clear n0_ n1_ n2_ n3_ n4_ n5_ n6_ n7_ n8_
                            refine start_ (n := 9) (S := fun w' => w'.cell? ⟨gb36002, 0, none⟩ = some (.int .i64 x36003000_1) ∧ w'.cell? ⟨gb36002, 1, none⟩ = some (.slice Ao21 x36003001_1.length co21) ∧ w'.cell? ⟨gb36002, 2, none⟩ = some (.slice Ao22 x36003002_1.length co22)) (ds := []) #[false, false, false, false, false, false, false, false, false] (by kernel_rfl) rfl rfl ⟨(blk_cell BK36002.out 0).trans rfl, (blk_cell BK36002.out 1).trans rfl, (blk_cell BK36002.out 2).trans rfl⟩ (fun hHeld => ?_); refine with_tabW customslaw38_play.tab24 customslaw38_play.bits24 (fun HT_ HW_ => ?_)
                            generalize wc.drew = w89 at HO_36003001 HO_36003002 HO_36011001 HO_36011002 BK36001 BK36002 BK36010 HI36007 HB hHeld ⊢
                            refine pure_ (i := 1) (N := some 90) (v := ?_) (a' := ?_) #[false, true, false, false, false, false, false, false, false] rfl rfl (any_of HT_.out (by kernel_rfl)) (fun _ _ _ h => h) (Or.inl ⟨by rfl, ?_⟩) ?_ ?_
                            rotate_left
                            · intro w'
                              go_simp
                              with_reducible rfl
                            rotate_left
                            · simp only [Act.put, List.setIfInBounds_toArray, List.set_cons_zero, List.set_cons_succ, i64_w, i32_w]
                              rfl
                            refine take_ (i := 0) (N := some 89) (v := ?_) (a' := ?_) #[true, true, false, false, false, false, false, false, false] rfl rfl (take_ofW HT_.out HW_.out (by kernel_rfl)) (fun _ _ _ h => h) (Or.inl ⟨by rfl, ?_⟩) hHeld ?_ ?_
                            rotate_left
                            · rintro w' ⟨s0, s1, s2⟩
                              go_simp
                              with_reducible rfl
                            rotate_left
                            · simp only [Act.put, List.setIfInBounds_toArray, List.set_cons_zero, List.set_cons_succ, i64_w, i32_w]
                              rfl
                            refine one_ (i := 2) (N := some 91) #[true, true, true, false, false, false, false, false, false] rfl rfl (one_of HT_.out (by kernel_rfl)) (by decide) (fun K hK => ?_)
                            refine goes_ Try.func69 (by kernel_rfl) rfl #[.pointer (some ⟨g36007, 0, none⟩), .int .i64 20] (by rfl) rfl rfl (by (try simp only [List.map_toArray, List.map_cons, List.map_nil]); first | done | rfl | (simp only [List.length_drop, List.length_take]; rfl)) ?_
                            with_reducible refine (customsmade_Source_Next.calls g36007 t36005 t36012 20 t36042 t36043 w _ ?side1 ?side2 A87.out).mono ?_
                            (case side1 => repeat (first | (with_reducible first | exact HI36007.out | apply IsS79.alloc | apply IsS79.drewN | apply IsS79.drew | apply IsS79.set_1 | refine IsS79.far ?_ NB36007_36001.out _ | refine IsS79.far ?_ NB36007_36002.out _ | refine IsS79.far ?_ NB36007_36010.out _) | exact HI36007.out))
                            (case side2 => repeat (first | (with_reducible first | exact HB.out | apply bA | apply bN | apply b1 | refine bS ?_ (IsS79.ge HI36007.out) | refine bS ?_ GE36001.out | refine bS ?_ GE36002.out | refine bS ?_ GE36010.out) | exact HB.out))
                            rintro e w90 ⟨rfl, hi, hb, hk⟩
                            refine ⟨_, rfl, ?_⟩
                            have n0_ := Aside0.mk (Kd.R_mono (Kd.R_keep (IsS79.apart (show IsS79 w _ g36007 t36005 t36012 from by repeat (first | (with_reducible first | exact HI36007.out | apply IsS79.alloc | apply IsS79.drewN | apply IsS79.drew | apply IsS79.set_1 | refine IsS79.far ?_ NB36007_36001.out _ | refine IsS79.far ?_ NB36007_36002.out _ | refine IsS79.far ?_ NB36007_36010.out _) | exact HI36007.out)) (Kd.R_ext HO_36003001.out) (by decide)) hk (fun _ h => h.2)) (fun _ h => h.1))
                            have n1_ := Aside0.mk (Kd.R_mono (Kd.R_keep (IsS79.apart (show IsS79 w _ g36007 t36005 t36012 from by repeat (first | (with_reducible first | exact HI36007.out | apply IsS79.alloc | apply IsS79.drewN | apply IsS79.drew | apply IsS79.set_1 | refine IsS79.far ?_ NB36007_36001.out _ | refine IsS79.far ?_ NB36007_36002.out _ | refine IsS79.far ?_ NB36007_36010.out _) | exact HI36007.out)) (Kd.R_ext HO_36003002.out) (by decide)) hk (fun _ h => h.2)) (fun _ h => h.1))
                            have n2_ := Aside0.mk (Kd.R_mono (Kd.R_keep (IsS79.apart (show IsS79 w _ g36007 t36005 t36012 from by repeat (first | (with_reducible first | exact HI36007.out | apply IsS79.alloc | apply IsS79.drewN | apply IsS79.drew | apply IsS79.set_1 | refine IsS79.far ?_ NB36007_36001.out _ | refine IsS79.far ?_ NB36007_36002.out _ | refine IsS79.far ?_ NB36007_36010.out _) | exact HI36007.out)) (Kd.R_ext HO_36011001.out) (by decide)) hk (fun _ h => h.2)) (fun _ h => h.1))
                            have n3_ := Aside0.mk (Kd.R_mono (Kd.R_keep (IsS79.apart (show IsS79 w _ g36007 t36005 t36012 from by repeat (first | (with_reducible first | exact HI36007.out | apply IsS79.alloc | apply IsS79.drewN | apply IsS79.drew | apply IsS79.set_1 | refine IsS79.far ?_ NB36007_36001.out _ | refine IsS79.far ?_ NB36007_36002.out _ | refine IsS79.far ?_ NB36007_36010.out _) | exact HI36007.out)) (Kd.R_ext HO_36011002.out) (by decide)) hk (fun _ h => h.2)) (fun _ h => h.1))
                            have n4_ := Aside0.mk (KeepBut.blk hk (g' := gb36001) (o := .cells #[.int .i64 x36002000_1, .slice none 0 0, .slice none 0 0] 44 (0, 0)) (blk_ext BK36001.out) NB36001_36007.out (by simp))
                            have n5_ := Aside0.mk (KeepBut.blk hk (g' := gb36002) (o := .cells #[.int .i64 x36003000_1, .slice Ao21 x36003001_1.length co21, .slice Ao22 x36003002_1.length co22] 44 (0, 0)) (blk_ext BK36002.out) NB36002_36007.out (by simp))
                            have n6_ := Aside0.mk (KeepBut.blk hk (g' := gb36010) (o := .cells #[.int .i64 x36003000_1, .slice Ao21 x36003001_1.length co21, .slice Ao22 x36003002_1.length co22] 44 (0, 0)) (blk_ext BK36010.out) NB36010_36007.out (by simp))
                            have n7_ := Aside0.mk (hb)
                            have n8_ := Aside0.mk (hi)
                            clear HO_36003001
                            clear HO_36003002
                            clear HO_36011001
                            clear HO_36011002
                            clear BK36001
                            clear BK36002
                            clear BK36010
                            clear HB
                            clear HI36007
                            have HO_36003001 := n0_
                            have HO_36003002 := n1_
                            have HO_36011001 := n2_
                            have HO_36011002 := n3_
                            have BK36001 := n4_
                            have BK36002 := n5_
                            have BK36010 := n6_
                            have HB := n7_
                            have HI36007 := n8_
                            clear n0_ n1_ n2_ n3_ n4_ n5_ n6_ n7_ n8_
                            (try clear hb)
                            (try clear hb2)
                            (try clear hk)
                            (try clear hi)
                            refine hK.out _ _ ⟨(blk_cell BK36002.out 0).trans rfl, (blk_cell BK36002.out 1).trans rfl, (blk_cell BK36002.out 2).trans rfl⟩ (fun hHeld => ?_)
                            clear hK K
                            refine norm_ (a' := ?_) ?_ ?_
                            rotate_left
                            · show Act.put _ (some 91) _ = _
                              simp only [Act.put, List.setIfInBounds_toArray, List.set_cons_zero, List.set_cons_succ, i64_w, i32_w]
                              rfl
                            refine one_ (i := 3) (N := some 92) #[true, true, true, true, false, false, false, false, false] rfl rfl (one_of HT_.out (by kernel_rfl)) (by decide) (fun K hK => ?_)
                            refine goes_ Try.func43 (by kernel_rfl) rfl #[.agg #[.int .i64 x36003000_1, .slice Ao21 x36003001_1.length co21, .slice Ao22 x36003002_1.length co22], .int .i64 t36042] (by rfl) rfl rfl (by (try simp only [List.map_toArray, List.map_cons, List.map_nil]); first | done | rfl | (simp only [List.length_drop, List.length_take]; rfl)) ?_
                            with_reducible refine (channel_Repeat.calls x36003000_1 _ _ x36003001_1 _ _ x36003002_1 t36042 t36044 t36045 t36048 t36051 _ ?side1 ?side2 ?side3 ?side4 A88.out).mono ?_
                            (case side1 => exact Kd.C_ext (Kd.R_reads' HO_36003001.out).2.2)
                            (case side2 => exact (Kd.R_reads' HO_36003001.out).2.1)
                            (case side3 => exact Kd.C_ext (Kd.R_reads' HO_36003002.out).2.2)
                            (case side4 => exact (Kd.R_reads' HO_36003002.out).2.1)
                            rintro e w91 ⟨v36046, v36049, rfl, ho0, ho1, hb⟩
                            refine ⟨_, rfl, ?_⟩
                            have n4_ := Aside0.mk (Kd.R_lower (Kd.R_new' (Kd.R_new' (Kd.R_new' (Kd.R_new' ho0 (Kd.R_lt (Kd.R_ext HO_36003001.out))) (Kd.R_lt (Kd.R_ext HO_36003002.out))) (Kd.R_lt (Kd.R_ext HO_36011001.out))) (Kd.R_lt (Kd.R_ext HO_36011002.out))) (below_size (by repeat (first | (with_reducible first | exact HB.out | apply bA | apply bN | apply b1 | refine bS ?_ (IsS79.ge HI36007.out) | refine bS ?_ GE36001.out | refine bS ?_ GE36002.out | refine bS ?_ GE36010.out) | exact HB.out))))
                            have n5_ := Aside0.mk (Kd.R_lower (Kd.R_new' (Kd.R_new' (Kd.R_new' (Kd.R_new' ho1 (Kd.R_lt (Kd.R_ext HO_36003001.out))) (Kd.R_lt (Kd.R_ext HO_36003002.out))) (Kd.R_lt (Kd.R_ext HO_36011001.out))) (Kd.R_lt (Kd.R_ext HO_36011002.out))) (below_size (by repeat (first | (with_reducible first | exact HB.out | apply bA | apply bN | apply b1 | refine bS ?_ (IsS79.ge HI36007.out) | refine bS ?_ GE36001.out | refine bS ?_ GE36002.out | refine bS ?_ GE36010.out) | exact HB.out))))
                            have n9_ := Aside0.mk (IsS79.below (by repeat (first | (with_reducible first | exact HI36007.out | apply IsS79.alloc | apply IsS79.drewN | apply IsS79.drew | apply IsS79.set_1 | refine IsS79.far ?_ NB36007_36001.out _ | refine IsS79.far ?_ NB36007_36002.out _ | refine IsS79.far ?_ NB36007_36010.out _) | exact HI36007.out)) hb)
                            have n10_ := Aside0.mk (below_step (by repeat (first | (with_reducible first | exact HB.out | apply bA | apply bN | apply b1 | refine bS ?_ (IsS79.ge HI36007.out) | refine bS ?_ GE36001.out | refine bS ?_ GE36002.out | refine bS ?_ GE36010.out) | exact HB.out)) hb)
                            clear HI36007
                            clear HB
                            have HO36047 := n4_
                            have HO36050 := n5_
                            have HI36007 := n9_
                            have HB := n10_
                            replace HO_36003001 := tdR2 HO_36003001 hb (Kd.R_base ho0) (Kd.R_base ho1)
                            replace HO_36003002 := tdR2 HO_36003002 hb (Kd.R_base ho0) (Kd.R_base ho1)
                            replace HO_36011001 := tdR2 HO_36011001 hb (Kd.R_base ho0) (Kd.R_base ho1)
                            replace HO_36011002 := tdR2 HO_36011002 hb (Kd.R_base ho0) (Kd.R_base ho1)
                            replace BK36001 := mvB BK36001 hb
                            replace BK36002 := mvB BK36002 hb
                            replace BK36010 := mvB BK36010 hb
                            clear n4_ n5_ n9_ n10_
                            (try clear hb)
                            (try clear hb2)
                            (try clear hk)
                            (try clear hi)
                            (try clear ho0)
                            (try clear ho1)
                            obtain ⟨Ao93, co93, eo93⟩ := Kd.R_slice HO36047.out
                            (first | subst eo93 | (injection eo93 with f1_ f2_ f3_; have f4_ := f1_.symm; have f5_ := f3_.symm; clear f1_ f2_ f3_; subst f4_; subst f5_))
                            obtain ⟨Ao95, co95, eo95⟩ := Kd.R_slice HO36050.out
                            (first | subst eo95 | (injection eo95 with f1_ f2_ f3_; have f4_ := f1_.symm; have f5_ := f3_.symm; clear f1_ f2_ f3_; subst f4_; subst f5_))
                            refine hK.out _ _ ⟨(blk_cell BK36002.out 0).trans rfl, (blk_cell BK36002.out 1).trans rfl, (blk_cell BK36002.out 2).trans rfl⟩ (fun hHeld => ?_)
                            clear hK K
                            refine norm_ (a' := ?_) ?_ ?_
                            rotate_left
                            · show Act.put _ (some 92) _ = _
                              simp only [Act.put, List.setIfInBounds_toArray, List.set_cons_zero, List.set_cons_succ, i64_w, i32_w]
                              rfl
                            refine pure_ (i := 4) (N := some 88) (v := ?_) (a' := ?_) #[true, true, true, true, true, false, false, false, false] rfl rfl (any_of HT_.out (by kernel_rfl)) (fun _ _ _ h => h) (Or.inl ⟨by rfl, ?_⟩) ?_ ?_
                            rotate_left
                            · intro w'
                              go_simp
                              with_reducible rfl
                            rotate_left
                            · simp only [Act.put, List.setIfInBounds_toArray, List.set_cons_zero, List.set_cons_succ, i64_w, i32_w]
                              rfl
                            refine pure_ (i := 5) (N := some 93) (v := ?_) (a' := ?_) #[true, true, true, true, true, true, false, false, false] rfl rfl (any_of HT_.out (by kernel_rfl)) (fun _ _ _ h => h) (Or.inl ⟨by rfl, ?_⟩) ?_ ?_
                            rotate_left
                            · intro w'
                              go_simp
                              with_reducible rfl
                            rotate_left
                            · simp only [Act.put, List.setIfInBounds_toArray, List.set_cons_zero, List.set_cons_succ, i64_w, i32_w]
                              rfl
                            refine pure_ (i := 6) (N := some 94) (v := ?_) (a' := ?_) #[true, true, true, true, true, true, true, false, false] rfl rfl (any_of HT_.out (by kernel_rfl)) (fun _ _ _ h => h) (Or.inl ⟨by rfl, ?_⟩) ?_ ?_
                            rotate_left
                            · intro w'
                              go_simp
                              with_reducible rfl
                            rotate_left
                            · simp only [Act.put, List.setIfInBounds_toArray, List.set_cons_zero, List.set_cons_succ, i64_w, i32_w]
                              rfl
                            refine one_ (i := 7) (N := none) #[true, true, true, true, true, true, true, true, false] rfl rfl (one_of HT_.out (by kernel_rfl)) (by decide) (fun K hK => ?_)
                            have hs92 : w91.cell? ⟨gb36010, 0, none⟩ = some (.int .i64 x36003000_1) := (blk_cell BK36010.out 0).trans rfl
                            have hfs92 := blk_frozen BK36010.out 0
                            have hns92_0 := NB36001_36010.out
                            have hns92_1 := NB36002_36010.out
                            have hms92_0 := NB36010_36001.out
                            have hms92_1 := NB36010_36002.out
                            have hs94 : w91.cell? ⟨gb36010, 1, none⟩ = some (.slice Ao21 x36003001_1.length co21) := (blk_cell BK36010.out 1).trans rfl
                            have hfs94 := blk_frozen BK36010.out 1
                            have hns94_0 := NB36001_36010.out
                            have hns94_1 := NB36002_36010.out
                            have hms94_0 := NB36010_36001.out
                            have hms94_1 := NB36010_36002.out
                            have hs96 : w91.cell? ⟨gb36010, 2, none⟩ = some (.slice Ao22 x36003002_1.length co22) := (blk_cell BK36010.out 2).trans rfl
                            have hfs96 := blk_frozen BK36010.out 2
                            have hns96_0 := NB36001_36010.out
                            have hns96_1 := NB36002_36010.out
                            have hms96_0 := NB36010_36001.out
                            have hms96_1 := NB36010_36002.out
                            refine skip_ (w1 := ?_) (by rfl) rfl ?_ ?_
                            rotate_left
                            · go_simp
                              rfl
                            refine hK.out _ _ ⟨((cell_far (p := ⟨gb36010, _, none⟩) NB36002_36010.out _).trans (((cell_far (p := ⟨gb36010, _, none⟩) NB36002_36010.out _).trans (((cell_far (p := ⟨gb36010, _, none⟩) NB36002_36010.out _).trans (hHeld.1)))))), ((cell_far (p := ⟨gb36010, _, none⟩) NB36002_36010.out _).trans (((cell_far (p := ⟨gb36010, _, none⟩) NB36002_36010.out _).trans (((cell_far (p := ⟨gb36010, _, none⟩) NB36002_36010.out _).trans (hHeld.2.1)))))), ((cell_far (p := ⟨gb36010, _, none⟩) NB36002_36010.out _).trans (((cell_far (p := ⟨gb36010, _, none⟩) NB36002_36010.out _).trans (((cell_far (p := ⟨gb36010, _, none⟩) NB36002_36010.out _).trans (hHeld.2.2))))))⟩ (fun hHeld => ?_)
                            clear hK K
                            refine pure_ (i := 8) (N := some 12) (v := ?_) (a' := ?_) #[true, true, true, true, true, true, true, true, true] rfl rfl (any_of HT_.out (by kernel_rfl)) (fun _ _ _ h => h) (Or.inl ⟨by rfl, ?_⟩) ?_ ?_
                            rotate_left
                            · intro w'
                              go_simp
                              with_reducible rfl
                            rotate_left
                            · simp only [Act.put, List.setIfInBounds_toArray, List.set_cons_zero, List.set_cons_succ, i64_w, i32_w]
                              rfl
                            refine done_ (done_of HT_.out (by kernel_rfl)) ?_
                            try go_wp2
                            go_meet
                            case rel => exact ⟨_, (x7_1), (x8_1), (t36051), (t36043), (t36044), (t36045), (t36048), (.slice Ao93 t36045.length co93), (.slice Ao95 t36048.length co95), (by first | rfl | (simp; done) | (simp [*]; done)), (by first | rfl | (simp; done) | (simp [*]; done)), (by first | rfl | (simp; done) | (simp [*]; done)), H', ⟨by have := HK1.out; have := HJ24.out; have := HJ43.out; first | omega | exact Nat.le_refl _⟩, ⟨Kd.R_ext (Kd.R_mono (Kd.R_far (p := ⟨gb36010, 2, none⟩) (Kd.R_far (p := ⟨gb36010, 1, none⟩) (Kd.R_far (p := ⟨gb36010, 0, none⟩) (Kd.R_types HO_36003001.out BK36010.out (by decide)) (fun _ hk => hk.2) (.int .i64 t36044)) (fun _ hk => hk.2) (.slice Ao93 t36045.length co93)) (fun _ hk => hk.2) (.slice Ao95 t36048.length co95)) (fun _ hk => ⟨hk.1.1.1.1, hk.1.2⟩))⟩, ⟨Kd.R_ext (Kd.R_mono (Kd.R_far (p := ⟨gb36010, 2, none⟩) (Kd.R_far (p := ⟨gb36010, 1, none⟩) (Kd.R_far (p := ⟨gb36010, 0, none⟩) (Kd.R_types HO_36003002.out BK36010.out (by decide)) (fun _ hk => hk.2) (.int .i64 t36044)) (fun _ hk => hk.2) (.slice Ao93 t36045.length co93)) (fun _ hk => hk.2) (.slice Ao95 t36048.length co95)) (fun _ hk => ⟨hk.1.1.1.1, hk.1.1.2⟩))⟩, ⟨Kd.R_ext (Kd.R_mono (Kd.R_far (p := ⟨gb36010, 2, none⟩) (Kd.R_far (p := ⟨gb36010, 1, none⟩) (Kd.R_far (p := ⟨gb36010, 0, none⟩) (Kd.R_types HO36047.out BK36010.out (by decide)) (fun _ hk => hk.2) (.int .i64 t36044)) (fun _ hk => hk.2) (.slice Ao93 t36045.length co93)) (fun _ hk => hk.2) (.slice Ao95 t36048.length co95)) (fun _ hk => ⟨hk.1.1.1.2, hk.1.1.1.1.1⟩))⟩, ⟨Kd.R_ext (Kd.R_mono (Kd.R_far (p := ⟨gb36010, 2, none⟩) (Kd.R_far (p := ⟨gb36010, 1, none⟩) (Kd.R_far (p := ⟨gb36010, 0, none⟩) (Kd.R_types HO36050.out BK36010.out (by decide)) (fun _ hk => hk.2) (.int .i64 t36044)) (fun _ hk => hk.2) (.slice Ao93 t36045.length co93)) (fun _ hk => hk.2) (.slice Ao95 t36048.length co95)) (fun _ hk => ⟨hk.1.1.1.1.2, hk.1.1.1.1.1⟩))⟩, ⟨blk_extC BK36001.out⟩, ⟨blk_extC BK36002.out⟩, ⟨by (with_reducible repeat (first | refine blk_drewN ?_ _ | refine blk_drew ?_ | refine blk_alloc ?_ _)); refine blk_put (cs := #[.int .i64 t36044, .slice Ao93 t36045.length co93, .slice Ao22 x36003002_1.length co22]) ?_ 2 _ rfl; (with_reducible repeat (first | refine blk_drewN ?_ _ | refine blk_drew ?_ | refine blk_alloc ?_ _)); refine blk_put (cs := #[.int .i64 t36044, .slice Ao21 x36003001_1.length co21, .slice Ao22 x36003002_1.length co22]) ?_ 1 _ rfl; (with_reducible repeat (first | refine blk_drewN ?_ _ | refine blk_drew ?_ | refine blk_alloc ?_ _)); refine blk_put (cs := #[.int .i64 x36003000_1, .slice Ao21 x36003001_1.length co21, .slice Ao22 x36003002_1.length co22]) ?_ 0 _ rfl; exact blk_ext BK36010.out⟩, ⟨by repeat (first | (with_reducible first | exact HI36007.out | apply IsS79.alloc | apply IsS79.drewN | apply IsS79.drew | apply IsS79.set_1 | refine IsS79.far ?_ NB36007_36001.out _ | refine IsS79.far ?_ NB36007_36002.out _ | refine IsS79.far ?_ NB36007_36010.out _) | exact HI36007.out)⟩, ⟨by repeat (first | (with_reducible first | exact HB.out | apply bA | apply bN | apply b1 | refine bS ?_ (IsS79.ge HI36007.out) | refine bS ?_ GE36001.out | refine bS ?_ GE36002.out | refine bS ?_ GE36010.out) | exact HB.out)⟩⟩
                          · rw [if_neg c86] at H
                            have c86b0 : (t36011 == 6) = false := beq_eq_false_iff_ne.mpr c86
                            have c86b1 : (t36011 != 6) = true := bne_iff_ne.mpr c86
                            replace H := Option.bind_eq_some_iff.mp H
                            obtain ⟨⟨t36052, t36053⟩, A970, H⟩ := H
                            replace H : (if t36052 = 0 then ((customsmade_Source_Next.f t36005 t36053 20).bind fun bt36054 => ((channel_Forget.f x36003000_1 x36003001_1 x36003002_1 bt36054.1).bind fun bt36056 => (customslaw38_play.j3 kj43 x7_1 x8_1 bt36056.2.2.2 x36003000_1 x36003001_1 x36003002_1 t36005 bt36054.2 bt36056.1 bt36056.2.1 bt36056.2.2.1))) else ((customsmade_Source_Next.f t36005 t36053 20).bind fun bt36064 => ((channel_Confirm.f x36003000_1 x36003001_1 x36003002_1 bt36064.1).bind fun bt36066 => (customslaw38_play.j3 kj43 x7_1 x8_1 bt36066.2.2.2 x36003000_1 x36003001_1 x36003002_1 t36005 bt36064.2 bt36066.1 bt36066.2.1 bt36066.2.2.1)))) = some (r1, r2, r3, r4, r5, r6) := H
                            have A97 := Aside0.mk A970
                            clear A970
                            by_cases c98 : t36052 = 0
                            · rw [if_pos c98] at H
                              have c98b0 : (t36052 == 0) = true := beq_iff_eq.mpr c98
                              have c98b1 : (t36052 != 0) = false := bne_eq_false_iff_eq.mpr c98
                              clear c98
                              replace H := Option.bind_eq_some_iff.mp H
                              obtain ⟨⟨t36054, t36055⟩, A990, H⟩ := H
                              replace H : ((channel_Forget.f x36003000_1 x36003001_1 x36003002_1 t36054).bind fun bt36056 => (customslaw38_play.j3 kj43 x7_1 x8_1 bt36056.2.2.2 x36003000_1 x36003001_1 x36003002_1 t36005 t36055 bt36056.1 bt36056.2.1 bt36056.2.2.1)) = some (r1, r2, r3, r4, r5, r6) := H
                              have A99 := Aside0.mk A990
                              clear A990
                              replace H := Option.bind_eq_some_iff.mp H
                              obtain ⟨⟨t36056, t36057, t36060, t36063⟩, A1000, H⟩ := H
                              replace H : (customslaw38_play.j3 kj43 x7_1 x8_1 t36063 x36003000_1 x36003001_1 x36003002_1 t36005 t36055 t36056 t36057 t36060) = some (r1, r2, r3, r4, r5, r6) := H
                              have A100 := Aside0.mk A1000
                              clear A1000
                              have H' := Aside0.mk H
                              clear H
                              try go_wp2_with (first | ((with_reducible refine gate_callee (f := 69) rfl ?_); refine goesL_ (some 23) rfl rfl Try.func69 (by kernel_rfl) rfl #[.pointer (some ⟨g36007, 0, none⟩), .int .i64 3] rfl (by (try simp only [List.map_toArray, List.map_cons, List.map_nil]); first | done | rfl | (simp only [List.length_drop, List.length_take]; rfl)) ?_; (with_reducible refine (customsmade_Source_Next.calls g36007 t36005 t36012 3 t36052 t36053 w _ ?side1 ?side2 A97.out).mono ?_); (case side1 => repeat (first | (with_reducible first | exact HI36007.out | apply IsS79.alloc | apply IsS79.drewN | apply IsS79.drew | apply IsS79.set_1 | refine IsS79.far ?_ NB36007_36001.out _ | refine IsS79.far ?_ NB36007_36002.out _ | refine IsS79.far ?_ NB36007_36010.out _) | exact HI36007.out)); (case side2 => repeat (first | (with_reducible first | exact HB.out | apply bA | apply bN | apply b1 | refine bS ?_ (IsS79.ge HI36007.out) | refine bS ?_ GE36001.out | refine bS ?_ GE36002.out | refine bS ?_ GE36010.out) | exact HB.out)); rintro e w101 ⟨rfl, hi, hb, hk⟩; refine ⟨_, rfl, ?_⟩; have n0_ := Aside0.mk (Kd.R_mono (Kd.R_keep (IsS79.apart (show IsS79 w _ g36007 t36005 t36012 from by repeat (first | (with_reducible first | exact HI36007.out | apply IsS79.alloc | apply IsS79.drewN | apply IsS79.drew | apply IsS79.set_1 | refine IsS79.far ?_ NB36007_36001.out _ | refine IsS79.far ?_ NB36007_36002.out _ | refine IsS79.far ?_ NB36007_36010.out _) | exact HI36007.out)) (Kd.R_ext HO_36003001.out) (by decide)) hk (fun _ h => h.2)) (fun _ h => h.1)); have n1_ := Aside0.mk (Kd.R_mono (Kd.R_keep (IsS79.apart (show IsS79 w _ g36007 t36005 t36012 from by repeat (first | (with_reducible first | exact HI36007.out | apply IsS79.alloc | apply IsS79.drewN | apply IsS79.drew | apply IsS79.set_1 | refine IsS79.far ?_ NB36007_36001.out _ | refine IsS79.far ?_ NB36007_36002.out _ | refine IsS79.far ?_ NB36007_36010.out _) | exact HI36007.out)) (Kd.R_ext HO_36003002.out) (by decide)) hk (fun _ h => h.2)) (fun _ h => h.1)); have n2_ := Aside0.mk (Kd.R_mono (Kd.R_keep (IsS79.apart (show IsS79 w _ g36007 t36005 t36012 from by repeat (first | (with_reducible first | exact HI36007.out | apply IsS79.alloc | apply IsS79.drewN | apply IsS79.drew | apply IsS79.set_1 | refine IsS79.far ?_ NB36007_36001.out _ | refine IsS79.far ?_ NB36007_36002.out _ | refine IsS79.far ?_ NB36007_36010.out _) | exact HI36007.out)) (Kd.R_ext HO_36011001.out) (by decide)) hk (fun _ h => h.2)) (fun _ h => h.1)); have n3_ := Aside0.mk (Kd.R_mono (Kd.R_keep (IsS79.apart (show IsS79 w _ g36007 t36005 t36012 from by repeat (first | (with_reducible first | exact HI36007.out | apply IsS79.alloc | apply IsS79.drewN | apply IsS79.drew | apply IsS79.set_1 | refine IsS79.far ?_ NB36007_36001.out _ | refine IsS79.far ?_ NB36007_36002.out _ | refine IsS79.far ?_ NB36007_36010.out _) | exact HI36007.out)) (Kd.R_ext HO_36011002.out) (by decide)) hk (fun _ h => h.2)) (fun _ h => h.1)); have n4_ := Aside0.mk (KeepBut.blk hk (g' := gb36001) (o := .cells #[.int .i64 x36002000_1, .slice none 0 0, .slice none 0 0] 44 (0, 0)) (blk_ext BK36001.out) NB36001_36007.out (by simp)); have n5_ := Aside0.mk (KeepBut.blk hk (g' := gb36002) (o := .cells #[.int .i64 x36003000_1, .slice Ao21 x36003001_1.length co21, .slice Ao22 x36003002_1.length co22] 44 (0, 0)) (blk_ext BK36002.out) NB36002_36007.out (by simp)); have n6_ := Aside0.mk (KeepBut.blk hk (g' := gb36010) (o := .cells #[.int .i64 x36003000_1, .slice Ao21 x36003001_1.length co21, .slice Ao22 x36003002_1.length co22] 44 (0, 0)) (blk_ext BK36010.out) NB36010_36007.out (by simp)); have n7_ := Aside0.mk (hb); have n8_ := Aside0.mk (hi); clear HO_36003001; clear HO_36003002; clear HO_36011001; clear HO_36011002; clear BK36001; clear BK36002; clear BK36010; clear HB; clear HI36007; have HO_36003001 := n0_; have HO_36003002 := n1_; have HO_36011001 := n2_; have HO_36011002 := n3_; have BK36001 := n4_; have BK36002 := n5_; have BK36010 := n6_; have HB := n7_; have HI36007 := n8_; clear n0_ n1_ n2_ n3_ n4_ n5_ n6_ n7_ n8_; (try clear hb); (try clear hb2); (try clear hk); (try clear hi)))
                              have n0_ := Aside0.mk (Kd.R_drew HO_36003001.out)
                              have n1_ := Aside0.mk (Kd.R_drew HO_36003002.out)
                              have n2_ := Aside0.mk (Kd.R_drew HO_36011001.out)
                              have n3_ := Aside0.mk (Kd.R_drew HO_36011002.out)
                              have n4_ := Aside0.mk (blk_drew BK36001.out)
                              have n5_ := Aside0.mk (blk_drew BK36002.out)
                              have n6_ := Aside0.mk (blk_drew BK36010.out)
                              have n7_ := Aside0.mk (IsS79.drew HI36007.out)
                              have n8_ := Aside0.mk (below_drew1 HB.out)
                              clear HO_36003001
                              clear HO_36003002
                              clear HO_36011001
                              clear HO_36011002
                              clear BK36001
                              clear BK36002
                              clear BK36010
                              clear HI36007
                              clear HB
                              have HO_36003001 := n0_
                              have HO_36003002 := n1_
                              have HO_36011001 := n2_
                              have HO_36011002 := n3_
                              have BK36001 := n4_
                              have BK36002 := n5_
                              have BK36010 := n6_
                              have HI36007 := n7_
                              have HB := n8_
                              clear n0_ n1_ n2_ n3_ n4_ n5_ n6_ n7_ n8_
                              refine start_ (n := 9) (S := fun w' => w'.cell? ⟨gb36002, 0, none⟩ = some (.int .i64 x36003000_1) ∧ w'.cell? ⟨gb36002, 1, none⟩ = some (.slice Ao21 x36003001_1.length co21) ∧ w'.cell? ⟨gb36002, 2, none⟩ = some (.slice Ao22 x36003002_1.length co22)) (ds := []) #[false, false, false, false, false, false, false, false, false] (by kernel_rfl) rfl rfl ⟨(blk_cell BK36002.out 0).trans rfl, (blk_cell BK36002.out 1).trans rfl, (blk_cell BK36002.out 2).trans rfl⟩ (fun hHeld => ?_); refine with_tabW customslaw38_play.tab8 customslaw38_play.bits8 (fun HT_ HW_ => ?_)
                              generalize w101.drew = w102 at HO_36003001 HO_36003002 HO_36011001 HO_36011002 BK36001 BK36002 BK36010 HI36007 HB hHeld ⊢
                              refine pure_ (i := 1) (N := some 27) (v := ?_) (a' := ?_) #[false, true, false, false, false, false, false, false, false] rfl rfl (any_of HT_.out (by kernel_rfl)) (fun _ _ _ h => h) (Or.inl ⟨by rfl, ?_⟩) ?_ ?_
                              rotate_left
                              · intro w'
                                go_simp
                                with_reducible rfl
                              rotate_left
                              · simp only [Act.put, List.setIfInBounds_toArray, List.set_cons_zero, List.set_cons_succ, i64_w, i32_w]
                                rfl
                              refine take_ (i := 0) (N := some 26) (v := ?_) (a' := ?_) #[true, true, false, false, false, false, false, false, false] rfl rfl (take_ofW HT_.out HW_.out (by kernel_rfl)) (fun _ _ _ h => h) (Or.inl ⟨by rfl, ?_⟩) hHeld ?_ ?_
                              rotate_left
                              · rintro w' ⟨s0, s1, s2⟩
                                go_simp
                                with_reducible rfl
                              rotate_left
                              · simp only [Act.put, List.setIfInBounds_toArray, List.set_cons_zero, List.set_cons_succ, i64_w, i32_w]
                                rfl
                              refine one_ (i := 2) (N := some 28) #[true, true, true, false, false, false, false, false, false] rfl rfl (one_of HT_.out (by kernel_rfl)) (by decide) (fun K hK => ?_)
                              refine goes_ Try.func69 (by kernel_rfl) rfl #[.pointer (some ⟨g36007, 0, none⟩), .int .i64 20] (by rfl) rfl rfl (by (try simp only [List.map_toArray, List.map_cons, List.map_nil]); first | done | rfl | (simp only [List.length_drop, List.length_take]; rfl)) ?_
                              with_reducible refine (customsmade_Source_Next.calls g36007 t36005 t36053 20 t36054 t36055 w _ ?side1 ?side2 A99.out).mono ?_
                              (case side1 => repeat (first | (with_reducible first | exact HI36007.out | apply IsS79.alloc | apply IsS79.drewN | apply IsS79.drew | apply IsS79.set_1 | refine IsS79.far ?_ NB36007_36001.out _ | refine IsS79.far ?_ NB36007_36002.out _ | refine IsS79.far ?_ NB36007_36010.out _) | exact HI36007.out))
                              (case side2 => repeat (first | (with_reducible first | exact HB.out | apply bA | apply bN | apply b1 | refine bS ?_ (IsS79.ge HI36007.out) | refine bS ?_ GE36001.out | refine bS ?_ GE36002.out | refine bS ?_ GE36010.out) | exact HB.out))
                              rintro e w103 ⟨rfl, hi, hb, hk⟩
                              refine ⟨_, rfl, ?_⟩
                              have n0_ := Aside0.mk (Kd.R_mono (Kd.R_keep (IsS79.apart (show IsS79 w _ g36007 t36005 t36053 from by repeat (first | (with_reducible first | exact HI36007.out | apply IsS79.alloc | apply IsS79.drewN | apply IsS79.drew | apply IsS79.set_1 | refine IsS79.far ?_ NB36007_36001.out _ | refine IsS79.far ?_ NB36007_36002.out _ | refine IsS79.far ?_ NB36007_36010.out _) | exact HI36007.out)) (Kd.R_ext HO_36003001.out) (by decide)) hk (fun _ h => h.2)) (fun _ h => h.1))
                              have n1_ := Aside0.mk (Kd.R_mono (Kd.R_keep (IsS79.apart (show IsS79 w _ g36007 t36005 t36053 from by repeat (first | (with_reducible first | exact HI36007.out | apply IsS79.alloc | apply IsS79.drewN | apply IsS79.drew | apply IsS79.set_1 | refine IsS79.far ?_ NB36007_36001.out _ | refine IsS79.far ?_ NB36007_36002.out _ | refine IsS79.far ?_ NB36007_36010.out _) | exact HI36007.out)) (Kd.R_ext HO_36003002.out) (by decide)) hk (fun _ h => h.2)) (fun _ h => h.1))
                              have n2_ := Aside0.mk (Kd.R_mono (Kd.R_keep (IsS79.apart (show IsS79 w _ g36007 t36005 t36053 from by repeat (first | (with_reducible first | exact HI36007.out | apply IsS79.alloc | apply IsS79.drewN | apply IsS79.drew | apply IsS79.set_1 | refine IsS79.far ?_ NB36007_36001.out _ | refine IsS79.far ?_ NB36007_36002.out _ | refine IsS79.far ?_ NB36007_36010.out _) | exact HI36007.out)) (Kd.R_ext HO_36011001.out) (by decide)) hk (fun _ h => h.2)) (fun _ h => h.1))
                              have n3_ := Aside0.mk (Kd.R_mono (Kd.R_keep (IsS79.apart (show IsS79 w _ g36007 t36005 t36053 from by repeat (first | (with_reducible first | exact HI36007.out | apply IsS79.alloc | apply IsS79.drewN | apply IsS79.drew | apply IsS79.set_1 | refine IsS79.far ?_ NB36007_36001.out _ | refine IsS79.far ?_ NB36007_36002.out _ | refine IsS79.far ?_ NB36007_36010.out _) | exact HI36007.out)) (Kd.R_ext HO_36011002.out) (by decide)) hk (fun _ h => h.2)) (fun _ h => h.1))
                              have n4_ := Aside0.mk (KeepBut.blk hk (g' := gb36001) (o := .cells #[.int .i64 x36002000_1, .slice none 0 0, .slice none 0 0] 44 (0, 0)) (blk_ext BK36001.out) NB36001_36007.out (by simp))
                              have n5_ := Aside0.mk (KeepBut.blk hk (g' := gb36002) (o := .cells #[.int .i64 x36003000_1, .slice Ao21 x36003001_1.length co21, .slice Ao22 x36003002_1.length co22] 44 (0, 0)) (blk_ext BK36002.out) NB36002_36007.out (by simp))
                              have n6_ := Aside0.mk (KeepBut.blk hk (g' := gb36010) (o := .cells #[.int .i64 x36003000_1, .slice Ao21 x36003001_1.length co21, .slice Ao22 x36003002_1.length co22] 44 (0, 0)) (blk_ext BK36010.out) NB36010_36007.out (by simp))
                              have n7_ := Aside0.mk (hb)
                              have n8_ := Aside0.mk (hi)
                              clear HO_36003001
                              clear HO_36003002
                              clear HO_36011001
                              clear HO_36011002
                              clear BK36001
                              clear BK36002
                              clear BK36010
                              clear HB
                              clear HI36007
                              have HO_36003001 := n0_
                              have HO_36003002 := n1_
                              have HO_36011001 := n2_
                              have HO_36011002 := n3_
                              have BK36001 := n4_
                              have BK36002 := n5_
                              have BK36010 := n6_
                              have HB := n7_
                              have HI36007 := n8_
                              clear n0_ n1_ n2_ n3_ n4_ n5_ n6_ n7_ n8_
                              (try clear hb)
                              (try clear hb2)
                              (try clear hk)
                              (try clear hi)
                              refine hK.out _ _ ⟨(blk_cell BK36002.out 0).trans rfl, (blk_cell BK36002.out 1).trans rfl, (blk_cell BK36002.out 2).trans rfl⟩ (fun hHeld => ?_)
                              clear hK K
                              refine norm_ (a' := ?_) ?_ ?_
                              rotate_left
                              · show Act.put _ (some 28) _ = _
                                simp only [Act.put, List.setIfInBounds_toArray, List.set_cons_zero, List.set_cons_succ, i64_w, i32_w]
                                rfl
                              refine one_ (i := 3) (N := some 29) #[true, true, true, true, false, false, false, false, false] rfl rfl (one_of HT_.out (by kernel_rfl)) (by decide) (fun K hK => ?_)
                              refine goes_ Try.func47 (by kernel_rfl) rfl #[.agg #[.int .i64 x36003000_1, .slice Ao21 x36003001_1.length co21, .slice Ao22 x36003002_1.length co22], .int .i64 t36054] (by rfl) rfl rfl (by (try simp only [List.map_toArray, List.map_cons, List.map_nil]); first | done | rfl | (simp only [List.length_drop, List.length_take]; rfl)) ?_
                              with_reducible refine (channel_Forget.calls x36003000_1 _ _ x36003001_1 _ _ x36003002_1 t36054 t36056 t36057 t36060 t36063 _ ?side1 ?side2 ?side3 ?side4 A100.out).mono ?_
                              (case side1 => exact Kd.C_ext (Kd.R_reads' HO_36003001.out).2.2)
                              (case side2 => exact (Kd.R_reads' HO_36003001.out).2.1)
                              (case side3 => exact Kd.C_ext (Kd.R_reads' HO_36003002.out).2.2)
                              (case side4 => exact (Kd.R_reads' HO_36003002.out).2.1)
                              rintro e w104 ⟨v36058, v36061, rfl, ho0, ho1, hb⟩
                              refine ⟨_, rfl, ?_⟩
                              have n4_ := Aside0.mk (Kd.R_lower (Kd.R_new' (Kd.R_new' (Kd.R_new' (Kd.R_new' ho0 (Kd.R_lt (Kd.R_ext HO_36003001.out))) (Kd.R_lt (Kd.R_ext HO_36003002.out))) (Kd.R_lt (Kd.R_ext HO_36011001.out))) (Kd.R_lt (Kd.R_ext HO_36011002.out))) (below_size (by repeat (first | (with_reducible first | exact HB.out | apply bA | apply bN | apply b1 | refine bS ?_ (IsS79.ge HI36007.out) | refine bS ?_ GE36001.out | refine bS ?_ GE36002.out | refine bS ?_ GE36010.out) | exact HB.out))))
                              have n5_ := Aside0.mk (Kd.R_lower (Kd.R_new' (Kd.R_new' (Kd.R_new' (Kd.R_new' ho1 (Kd.R_lt (Kd.R_ext HO_36003001.out))) (Kd.R_lt (Kd.R_ext HO_36003002.out))) (Kd.R_lt (Kd.R_ext HO_36011001.out))) (Kd.R_lt (Kd.R_ext HO_36011002.out))) (below_size (by repeat (first | (with_reducible first | exact HB.out | apply bA | apply bN | apply b1 | refine bS ?_ (IsS79.ge HI36007.out) | refine bS ?_ GE36001.out | refine bS ?_ GE36002.out | refine bS ?_ GE36010.out) | exact HB.out))))
                              have n9_ := Aside0.mk (IsS79.below (by repeat (first | (with_reducible first | exact HI36007.out | apply IsS79.alloc | apply IsS79.drewN | apply IsS79.drew | apply IsS79.set_1 | refine IsS79.far ?_ NB36007_36001.out _ | refine IsS79.far ?_ NB36007_36002.out _ | refine IsS79.far ?_ NB36007_36010.out _) | exact HI36007.out)) hb)
                              have n10_ := Aside0.mk (below_step (by repeat (first | (with_reducible first | exact HB.out | apply bA | apply bN | apply b1 | refine bS ?_ (IsS79.ge HI36007.out) | refine bS ?_ GE36001.out | refine bS ?_ GE36002.out | refine bS ?_ GE36010.out) | exact HB.out)) hb)
                              clear HI36007
                              clear HB
                              have HO36059 := n4_
                              have HO36062 := n5_
                              have HI36007 := n9_
                              have HB := n10_
                              replace HO_36003001 := tdR2 HO_36003001 hb (Kd.R_base ho0) (Kd.R_base ho1)
                              replace HO_36003002 := tdR2 HO_36003002 hb (Kd.R_base ho0) (Kd.R_base ho1)
                              replace HO_36011001 := tdR2 HO_36011001 hb (Kd.R_base ho0) (Kd.R_base ho1)
                              replace HO_36011002 := tdR2 HO_36011002 hb (Kd.R_base ho0) (Kd.R_base ho1)
                              replace BK36001 := mvB BK36001 hb
                              replace BK36002 := mvB BK36002 hb
                              replace BK36010 := mvB BK36010 hb
                              clear n4_ n5_ n9_ n10_
                              (try clear hb)
                              (try clear hb2)
                              (try clear hk)
                              (try clear hi)
                              (try clear ho0)
                              (try clear ho1)
                              obtain ⟨Ao106, co106, eo106⟩ := Kd.R_slice HO36059.out
                              (first | subst eo106 | (injection eo106 with f1_ f2_ f3_; have f4_ := f1_.symm; have f5_ := f3_.symm; clear f1_ f2_ f3_; subst f4_; subst f5_))
                              obtain ⟨Ao108, co108, eo108⟩ := Kd.R_slice HO36062.out
                              (first | subst eo108 | (injection eo108 with f1_ f2_ f3_; have f4_ := f1_.symm; have f5_ := f3_.symm; clear f1_ f2_ f3_; subst f4_; subst f5_))
                              refine hK.out _ _ ⟨(blk_cell BK36002.out 0).trans rfl, (blk_cell BK36002.out 1).trans rfl, (blk_cell BK36002.out 2).trans rfl⟩ (fun hHeld => ?_)
                              clear hK K
                              refine norm_ (a' := ?_) ?_ ?_
                              rotate_left
                              · show Act.put _ (some 29) _ = _
                                simp only [Act.put, List.setIfInBounds_toArray, List.set_cons_zero, List.set_cons_succ, i64_w, i32_w]
                                rfl
                              refine pure_ (i := 4) (N := some 25) (v := ?_) (a' := ?_) #[true, true, true, true, true, false, false, false, false] rfl rfl (any_of HT_.out (by kernel_rfl)) (fun _ _ _ h => h) (Or.inl ⟨by rfl, ?_⟩) ?_ ?_
                              rotate_left
                              · intro w'
                                go_simp
                                with_reducible rfl
                              rotate_left
                              · simp only [Act.put, List.setIfInBounds_toArray, List.set_cons_zero, List.set_cons_succ, i64_w, i32_w]
                                rfl
                              refine pure_ (i := 5) (N := some 30) (v := ?_) (a' := ?_) #[true, true, true, true, true, true, false, false, false] rfl rfl (any_of HT_.out (by kernel_rfl)) (fun _ _ _ h => h) (Or.inl ⟨by rfl, ?_⟩) ?_ ?_
                              rotate_left
                              · intro w'
                                go_simp
                                with_reducible rfl
                              rotate_left
                              · simp only [Act.put, List.setIfInBounds_toArray, List.set_cons_zero, List.set_cons_succ, i64_w, i32_w]
                                rfl
                              refine pure_ (i := 6) (N := some 31) (v := ?_) (a' := ?_) #[true, true, true, true, true, true, true, false, false] rfl rfl (any_of HT_.out (by kernel_rfl)) (fun _ _ _ h => h) (Or.inl ⟨by rfl, ?_⟩) ?_ ?_
                              rotate_left
                              · intro w'
                                go_simp
                                with_reducible rfl
                              rotate_left
                              · simp only [Act.put, List.setIfInBounds_toArray, List.set_cons_zero, List.set_cons_succ, i64_w, i32_w]
                                rfl
                              refine one_ (i := 7) (N := none) #[true, true, true, true, true, true, true, true, false] rfl rfl (one_of HT_.out (by kernel_rfl)) (by decide) (fun K hK => ?_)
                              have hs105 : w104.cell? ⟨gb36010, 0, none⟩ = some (.int .i64 x36003000_1) := (blk_cell BK36010.out 0).trans rfl
                              have hfs105 := blk_frozen BK36010.out 0
                              have hns105_0 := NB36001_36010.out
                              have hns105_1 := NB36002_36010.out
                              have hms105_0 := NB36010_36001.out
                              have hms105_1 := NB36010_36002.out
                              have hs107 : w104.cell? ⟨gb36010, 1, none⟩ = some (.slice Ao21 x36003001_1.length co21) := (blk_cell BK36010.out 1).trans rfl
                              have hfs107 := blk_frozen BK36010.out 1
                              have hns107_0 := NB36001_36010.out
                              have hns107_1 := NB36002_36010.out
                              have hms107_0 := NB36010_36001.out
                              have hms107_1 := NB36010_36002.out
                              have hs109 : w104.cell? ⟨gb36010, 2, none⟩ = some (.slice Ao22 x36003002_1.length co22) := (blk_cell BK36010.out 2).trans rfl
                              have hfs109 := blk_frozen BK36010.out 2
                              have hns109_0 := NB36001_36010.out
                              have hns109_1 := NB36002_36010.out
                              have hms109_0 := NB36010_36001.out
                              have hms109_1 := NB36010_36002.out
                              refine skip_ (w1 := ?_) (by rfl) rfl ?_ ?_
                              rotate_left
                              · go_simp
                                rfl
                              refine hK.out _ _ ⟨((cell_far (p := ⟨gb36010, _, none⟩) NB36002_36010.out _).trans (((cell_far (p := ⟨gb36010, _, none⟩) NB36002_36010.out _).trans (((cell_far (p := ⟨gb36010, _, none⟩) NB36002_36010.out _).trans (hHeld.1)))))), ((cell_far (p := ⟨gb36010, _, none⟩) NB36002_36010.out _).trans (((cell_far (p := ⟨gb36010, _, none⟩) NB36002_36010.out _).trans (((cell_far (p := ⟨gb36010, _, none⟩) NB36002_36010.out _).trans (hHeld.2.1)))))), ((cell_far (p := ⟨gb36010, _, none⟩) NB36002_36010.out _).trans (((cell_far (p := ⟨gb36010, _, none⟩) NB36002_36010.out _).trans (((cell_far (p := ⟨gb36010, _, none⟩) NB36002_36010.out _).trans (hHeld.2.2))))))⟩ (fun hHeld => ?_)
                              clear hK K
                              refine pure_ (i := 8) (N := some 12) (v := ?_) (a' := ?_) #[true, true, true, true, true, true, true, true, true] rfl rfl (any_of HT_.out (by kernel_rfl)) (fun _ _ _ h => h) (Or.inl ⟨by rfl, ?_⟩) ?_ ?_
                              rotate_left
                              · intro w'
                                go_simp
                                with_reducible rfl
                              rotate_left
                              · simp only [Act.put, List.setIfInBounds_toArray, List.set_cons_zero, List.set_cons_succ, i64_w, i32_w]
                                rfl
                              refine done_ (done_of HT_.out (by kernel_rfl)) ?_
                              try go_wp2
                              go_meet
                              case rel => exact ⟨_, (x7_1), (x8_1), (t36063), (t36055), (t36056), (t36057), (t36060), (.slice Ao106 t36057.length co106), (.slice Ao108 t36060.length co108), (by first | rfl | (simp; done) | (simp [*]; done)), (by first | rfl | (simp; done) | (simp [*]; done)), (by first | rfl | (simp; done) | (simp [*]; done)), H', ⟨by have := HK1.out; have := HJ24.out; have := HJ43.out; first | omega | exact Nat.le_refl _⟩, ⟨Kd.R_ext (Kd.R_mono (Kd.R_far (p := ⟨gb36010, 2, none⟩) (Kd.R_far (p := ⟨gb36010, 1, none⟩) (Kd.R_far (p := ⟨gb36010, 0, none⟩) (Kd.R_types HO_36003001.out BK36010.out (by decide)) (fun _ hk => hk.2) (.int .i64 t36056)) (fun _ hk => hk.2) (.slice Ao106 t36057.length co106)) (fun _ hk => hk.2) (.slice Ao108 t36060.length co108)) (fun _ hk => ⟨hk.1.1.1.1, hk.1.2⟩))⟩, ⟨Kd.R_ext (Kd.R_mono (Kd.R_far (p := ⟨gb36010, 2, none⟩) (Kd.R_far (p := ⟨gb36010, 1, none⟩) (Kd.R_far (p := ⟨gb36010, 0, none⟩) (Kd.R_types HO_36003002.out BK36010.out (by decide)) (fun _ hk => hk.2) (.int .i64 t36056)) (fun _ hk => hk.2) (.slice Ao106 t36057.length co106)) (fun _ hk => hk.2) (.slice Ao108 t36060.length co108)) (fun _ hk => ⟨hk.1.1.1.1, hk.1.1.2⟩))⟩, ⟨Kd.R_ext (Kd.R_mono (Kd.R_far (p := ⟨gb36010, 2, none⟩) (Kd.R_far (p := ⟨gb36010, 1, none⟩) (Kd.R_far (p := ⟨gb36010, 0, none⟩) (Kd.R_types HO36059.out BK36010.out (by decide)) (fun _ hk => hk.2) (.int .i64 t36056)) (fun _ hk => hk.2) (.slice Ao106 t36057.length co106)) (fun _ hk => hk.2) (.slice Ao108 t36060.length co108)) (fun _ hk => ⟨hk.1.1.1.2, hk.1.1.1.1.1⟩))⟩, ⟨Kd.R_ext (Kd.R_mono (Kd.R_far (p := ⟨gb36010, 2, none⟩) (Kd.R_far (p := ⟨gb36010, 1, none⟩) (Kd.R_far (p := ⟨gb36010, 0, none⟩) (Kd.R_types HO36062.out BK36010.out (by decide)) (fun _ hk => hk.2) (.int .i64 t36056)) (fun _ hk => hk.2) (.slice Ao106 t36057.length co106)) (fun _ hk => hk.2) (.slice Ao108 t36060.length co108)) (fun _ hk => ⟨hk.1.1.1.1.2, hk.1.1.1.1.1⟩))⟩, ⟨blk_extC BK36001.out⟩, ⟨blk_extC BK36002.out⟩, ⟨by (with_reducible repeat (first | refine blk_drewN ?_ _ | refine blk_drew ?_ | refine blk_alloc ?_ _)); refine blk_put (cs := #[.int .i64 t36056, .slice Ao106 t36057.length co106, .slice Ao22 x36003002_1.length co22]) ?_ 2 _ rfl; (with_reducible repeat (first | refine blk_drewN ?_ _ | refine blk_drew ?_ | refine blk_alloc ?_ _)); refine blk_put (cs := #[.int .i64 t36056, .slice Ao21 x36003001_1.length co21, .slice Ao22 x36003002_1.length co22]) ?_ 1 _ rfl; (with_reducible repeat (first | refine blk_drewN ?_ _ | refine blk_drew ?_ | refine blk_alloc ?_ _)); refine blk_put (cs := #[.int .i64 x36003000_1, .slice Ao21 x36003001_1.length co21, .slice Ao22 x36003002_1.length co22]) ?_ 0 _ rfl; exact blk_ext BK36010.out⟩, ⟨by repeat (first | (with_reducible first | exact HI36007.out | apply IsS79.alloc | apply IsS79.drewN | apply IsS79.drew | apply IsS79.set_1 | refine IsS79.far ?_ NB36007_36001.out _ | refine IsS79.far ?_ NB36007_36002.out _ | refine IsS79.far ?_ NB36007_36010.out _) | exact HI36007.out)⟩, ⟨by repeat (first | (with_reducible first | exact HB.out | apply bA | apply bN | apply b1 | refine bS ?_ (IsS79.ge HI36007.out) | refine bS ?_ GE36001.out | refine bS ?_ GE36002.out | refine bS ?_ GE36010.out) | exact HB.out)⟩⟩
                            · rw [if_neg c98] at H
                              have c98b0 : (t36052 == 0) = false := beq_eq_false_iff_ne.mpr c98
                              have c98b1 : (t36052 != 0) = true := bne_iff_ne.mpr c98
                              replace H := Option.bind_eq_some_iff.mp H
                              obtain ⟨⟨t36064, t36065⟩, A1100, H⟩ := H
                              replace H : ((channel_Confirm.f x36003000_1 x36003001_1 x36003002_1 t36064).bind fun bt36066 => (customslaw38_play.j3 kj43 x7_1 x8_1 bt36066.2.2.2 x36003000_1 x36003001_1 x36003002_1 t36005 t36065 bt36066.1 bt36066.2.1 bt36066.2.2.1)) = some (r1, r2, r3, r4, r5, r6) := H
                              have A110 := Aside0.mk A1100
                              clear A1100
                              replace H := Option.bind_eq_some_iff.mp H
                              obtain ⟨⟨t36066, t36067, t36070, t36073⟩, A1110, H⟩ := H
                              replace H : (customslaw38_play.j3 kj43 x7_1 x8_1 t36073 x36003000_1 x36003001_1 x36003002_1 t36005 t36065 t36066 t36067 t36070) = some (r1, r2, r3, r4, r5, r6) := H
                              have A111 := Aside0.mk A1110
                              clear A1110
                              have H' := Aside0.mk H
                              clear H
                              try go_wp2_with (first | ((with_reducible refine gate_callee (f := 69) rfl ?_); refine goesL_ (some 23) rfl rfl Try.func69 (by kernel_rfl) rfl #[.pointer (some ⟨g36007, 0, none⟩), .int .i64 3] rfl (by (try simp only [List.map_toArray, List.map_cons, List.map_nil]); first | done | rfl | (simp only [List.length_drop, List.length_take]; rfl)) ?_; (with_reducible refine (customsmade_Source_Next.calls g36007 t36005 t36012 3 t36052 t36053 w _ ?side1 ?side2 A97.out).mono ?_); (case side1 => repeat (first | (with_reducible first | exact HI36007.out | apply IsS79.alloc | apply IsS79.drewN | apply IsS79.drew | apply IsS79.set_1 | refine IsS79.far ?_ NB36007_36001.out _ | refine IsS79.far ?_ NB36007_36002.out _ | refine IsS79.far ?_ NB36007_36010.out _) | exact HI36007.out)); (case side2 => repeat (first | (with_reducible first | exact HB.out | apply bA | apply bN | apply b1 | refine bS ?_ (IsS79.ge HI36007.out) | refine bS ?_ GE36001.out | refine bS ?_ GE36002.out | refine bS ?_ GE36010.out) | exact HB.out)); rintro e w112 ⟨rfl, hi, hb, hk⟩; refine ⟨_, rfl, ?_⟩; have n0_ := Aside0.mk (Kd.R_mono (Kd.R_keep (IsS79.apart (show IsS79 w _ g36007 t36005 t36012 from by repeat (first | (with_reducible first | exact HI36007.out | apply IsS79.alloc | apply IsS79.drewN | apply IsS79.drew | apply IsS79.set_1 | refine IsS79.far ?_ NB36007_36001.out _ | refine IsS79.far ?_ NB36007_36002.out _ | refine IsS79.far ?_ NB36007_36010.out _) | exact HI36007.out)) (Kd.R_ext HO_36003001.out) (by decide)) hk (fun _ h => h.2)) (fun _ h => h.1)); have n1_ := Aside0.mk (Kd.R_mono (Kd.R_keep (IsS79.apart (show IsS79 w _ g36007 t36005 t36012 from by repeat (first | (with_reducible first | exact HI36007.out | apply IsS79.alloc | apply IsS79.drewN | apply IsS79.drew | apply IsS79.set_1 | refine IsS79.far ?_ NB36007_36001.out _ | refine IsS79.far ?_ NB36007_36002.out _ | refine IsS79.far ?_ NB36007_36010.out _) | exact HI36007.out)) (Kd.R_ext HO_36003002.out) (by decide)) hk (fun _ h => h.2)) (fun _ h => h.1)); have n2_ := Aside0.mk (Kd.R_mono (Kd.R_keep (IsS79.apart (show IsS79 w _ g36007 t36005 t36012 from by repeat (first | (with_reducible first | exact HI36007.out | apply IsS79.alloc | apply IsS79.drewN | apply IsS79.drew | apply IsS79.set_1 | refine IsS79.far ?_ NB36007_36001.out _ | refine IsS79.far ?_ NB36007_36002.out _ | refine IsS79.far ?_ NB36007_36010.out _) | exact HI36007.out)) (Kd.R_ext HO_36011001.out) (by decide)) hk (fun _ h => h.2)) (fun _ h => h.1)); have n3_ := Aside0.mk (Kd.R_mono (Kd.R_keep (IsS79.apart (show IsS79 w _ g36007 t36005 t36012 from by repeat (first | (with_reducible first | exact HI36007.out | apply IsS79.alloc | apply IsS79.drewN | apply IsS79.drew | apply IsS79.set_1 | refine IsS79.far ?_ NB36007_36001.out _ | refine IsS79.far ?_ NB36007_36002.out _ | refine IsS79.far ?_ NB36007_36010.out _) | exact HI36007.out)) (Kd.R_ext HO_36011002.out) (by decide)) hk (fun _ h => h.2)) (fun _ h => h.1)); have n4_ := Aside0.mk (KeepBut.blk hk (g' := gb36001) (o := .cells #[.int .i64 x36002000_1, .slice none 0 0, .slice none 0 0] 44 (0, 0)) (blk_ext BK36001.out) NB36001_36007.out (by simp)); have n5_ := Aside0.mk (KeepBut.blk hk (g' := gb36002) (o := .cells #[.int .i64 x36003000_1, .slice Ao21 x36003001_1.length co21, .slice Ao22 x36003002_1.length co22] 44 (0, 0)) (blk_ext BK36002.out) NB36002_36007.out (by simp)); have n6_ := Aside0.mk (KeepBut.blk hk (g' := gb36010) (o := .cells #[.int .i64 x36003000_1, .slice Ao21 x36003001_1.length co21, .slice Ao22 x36003002_1.length co22] 44 (0, 0)) (blk_ext BK36010.out) NB36010_36007.out (by simp)); have n7_ := Aside0.mk (hb); have n8_ := Aside0.mk (hi); clear HO_36003001; clear HO_36003002; clear HO_36011001; clear HO_36011002; clear BK36001; clear BK36002; clear BK36010; clear HB; clear HI36007; have HO_36003001 := n0_; have HO_36003002 := n1_; have HO_36011001 := n2_; have HO_36011002 := n3_; have BK36001 := n4_; have BK36002 := n5_; have BK36010 := n6_; have HB := n7_; have HI36007 := n8_; clear n0_ n1_ n2_ n3_ n4_ n5_ n6_ n7_ n8_; (try clear hb); (try clear hb2); (try clear hk); (try clear hi)))
                              have n0_ := Aside0.mk (Kd.R_drew HO_36003001.out)
                              have n1_ := Aside0.mk (Kd.R_drew HO_36003002.out)
                              have n2_ := Aside0.mk (Kd.R_drew HO_36011001.out)
                              have n3_ := Aside0.mk (Kd.R_drew HO_36011002.out)
                              have n4_ := Aside0.mk (blk_drew BK36001.out)
                              have n5_ := Aside0.mk (blk_drew BK36002.out)
                              have n6_ := Aside0.mk (blk_drew BK36010.out)
                              have n7_ := Aside0.mk (IsS79.drew HI36007.out)
                              have n8_ := Aside0.mk (below_drew1 HB.out)
                              clear HO_36003001
                              clear HO_36003002
                              clear HO_36011001
                              clear HO_36011002
                              clear BK36001
                              clear BK36002
                              clear BK36010
                              clear HI36007
                              clear HB
                              have HO_36003001 := n0_
                              have HO_36003002 := n1_
                              have HO_36011001 := n2_
                              have HO_36011002 := n3_
                              have BK36001 := n4_
                              have BK36002 := n5_
                              have BK36010 := n6_
                              have HI36007 := n7_
                              have HB := n8_
                              clear n0_ n1_ n2_ n3_ n4_ n5_ n6_ n7_ n8_
                              refine start_ (n := 9) (S := fun w' => w'.cell? ⟨gb36002, 0, none⟩ = some (.int .i64 x36003000_1) ∧ w'.cell? ⟨gb36002, 1, none⟩ = some (.slice Ao21 x36003001_1.length co21) ∧ w'.cell? ⟨gb36002, 2, none⟩ = some (.slice Ao22 x36003002_1.length co22)) (ds := []) #[false, false, false, false, false, false, false, false, false] (by kernel_rfl) rfl rfl ⟨(blk_cell BK36002.out 0).trans rfl, (blk_cell BK36002.out 1).trans rfl, (blk_cell BK36002.out 2).trans rfl⟩ (fun hHeld => ?_); refine with_tabW customslaw38_play.tab9 customslaw38_play.bits9 (fun HT_ HW_ => ?_)
                              generalize w112.drew = w113 at HO_36003001 HO_36003002 HO_36011001 HO_36011002 BK36001 BK36002 BK36010 HI36007 HB hHeld ⊢
                              refine pure_ (i := 1) (N := some 34) (v := ?_) (a' := ?_) #[false, true, false, false, false, false, false, false, false] rfl rfl (any_of HT_.out (by kernel_rfl)) (fun _ _ _ h => h) (Or.inl ⟨by rfl, ?_⟩) ?_ ?_
                              rotate_left
                              · intro w'
                                go_simp
                                with_reducible rfl
                              rotate_left
                              · simp only [Act.put, List.setIfInBounds_toArray, List.set_cons_zero, List.set_cons_succ, i64_w, i32_w]
                                rfl
                              refine take_ (i := 0) (N := some 33) (v := ?_) (a' := ?_) #[true, true, false, false, false, false, false, false, false] rfl rfl (take_ofW HT_.out HW_.out (by kernel_rfl)) (fun _ _ _ h => h) (Or.inl ⟨by rfl, ?_⟩) hHeld ?_ ?_
                              rotate_left
                              · rintro w' ⟨s0, s1, s2⟩
                                go_simp
                                with_reducible rfl
                              rotate_left
                              · simp only [Act.put, List.setIfInBounds_toArray, List.set_cons_zero, List.set_cons_succ, i64_w, i32_w]
                                rfl
                              refine one_ (i := 2) (N := some 35) #[true, true, true, false, false, false, false, false, false] rfl rfl (one_of HT_.out (by kernel_rfl)) (by decide) (fun K hK => ?_)
                              refine goes_ Try.func69 (by kernel_rfl) rfl #[.pointer (some ⟨g36007, 0, none⟩), .int .i64 20] (by rfl) rfl rfl (by (try simp only [List.map_toArray, List.map_cons, List.map_nil]); first | done | rfl | (simp only [List.length_drop, List.length_take]; rfl)) ?_
                              with_reducible refine (customsmade_Source_Next.calls g36007 t36005 t36053 20 t36064 t36065 w _ ?side1 ?side2 A110.out).mono ?_
                              (case side1 => repeat (first | (with_reducible first | exact HI36007.out | apply IsS79.alloc | apply IsS79.drewN | apply IsS79.drew | apply IsS79.set_1 | refine IsS79.far ?_ NB36007_36001.out _ | refine IsS79.far ?_ NB36007_36002.out _ | refine IsS79.far ?_ NB36007_36010.out _) | exact HI36007.out))
                              (case side2 => repeat (first | (with_reducible first | exact HB.out | apply bA | apply bN | apply b1 | refine bS ?_ (IsS79.ge HI36007.out) | refine bS ?_ GE36001.out | refine bS ?_ GE36002.out | refine bS ?_ GE36010.out) | exact HB.out))
                              rintro e w114 ⟨rfl, hi, hb, hk⟩
                              refine ⟨_, rfl, ?_⟩
                              have n0_ := Aside0.mk (Kd.R_mono (Kd.R_keep (IsS79.apart (show IsS79 w _ g36007 t36005 t36053 from by repeat (first | (with_reducible first | exact HI36007.out | apply IsS79.alloc | apply IsS79.drewN | apply IsS79.drew | apply IsS79.set_1 | refine IsS79.far ?_ NB36007_36001.out _ | refine IsS79.far ?_ NB36007_36002.out _ | refine IsS79.far ?_ NB36007_36010.out _) | exact HI36007.out)) (Kd.R_ext HO_36003001.out) (by decide)) hk (fun _ h => h.2)) (fun _ h => h.1))
                              have n1_ := Aside0.mk (Kd.R_mono (Kd.R_keep (IsS79.apart (show IsS79 w _ g36007 t36005 t36053 from by repeat (first | (with_reducible first | exact HI36007.out | apply IsS79.alloc | apply IsS79.drewN | apply IsS79.drew | apply IsS79.set_1 | refine IsS79.far ?_ NB36007_36001.out _ | refine IsS79.far ?_ NB36007_36002.out _ | refine IsS79.far ?_ NB36007_36010.out _) | exact HI36007.out)) (Kd.R_ext HO_36003002.out) (by decide)) hk (fun _ h => h.2)) (fun _ h => h.1))
                              have n2_ := Aside0.mk (Kd.R_mono (Kd.R_keep (IsS79.apart (show IsS79 w _ g36007 t36005 t36053 from by repeat (first | (with_reducible first | exact HI36007.out | apply IsS79.alloc | apply IsS79.drewN | apply IsS79.drew | apply IsS79.set_1 | refine IsS79.far ?_ NB36007_36001.out _ | refine IsS79.far ?_ NB36007_36002.out _ | refine IsS79.far ?_ NB36007_36010.out _) | exact HI36007.out)) (Kd.R_ext HO_36011001.out) (by decide)) hk (fun _ h => h.2)) (fun _ h => h.1))
                              have n3_ := Aside0.mk (Kd.R_mono (Kd.R_keep (IsS79.apart (show IsS79 w _ g36007 t36005 t36053 from by repeat (first | (with_reducible first | exact HI36007.out | apply IsS79.alloc | apply IsS79.drewN | apply IsS79.drew | apply IsS79.set_1 | refine IsS79.far ?_ NB36007_36001.out _ | refine IsS79.far ?_ NB36007_36002.out _ | refine IsS79.far ?_ NB36007_36010.out _) | exact HI36007.out)) (Kd.R_ext HO_36011002.out) (by decide)) hk (fun _ h => h.2)) (fun _ h => h.1))
                              have n4_ := Aside0.mk (KeepBut.blk hk (g' := gb36001) (o := .cells #[.int .i64 x36002000_1, .slice none 0 0, .slice none 0 0] 44 (0, 0)) (blk_ext BK36001.out) NB36001_36007.out (by simp))
                              have n5_ := Aside0.mk (KeepBut.blk hk (g' := gb36002) (o := .cells #[.int .i64 x36003000_1, .slice Ao21 x36003001_1.length co21, .slice Ao22 x36003002_1.length co22] 44 (0, 0)) (blk_ext BK36002.out) NB36002_36007.out (by simp))
                              have n6_ := Aside0.mk (KeepBut.blk hk (g' := gb36010) (o := .cells #[.int .i64 x36003000_1, .slice Ao21 x36003001_1.length co21, .slice Ao22 x36003002_1.length co22] 44 (0, 0)) (blk_ext BK36010.out) NB36010_36007.out (by simp))
                              have n7_ := Aside0.mk (hb)
                              have n8_ := Aside0.mk (hi)
                              clear HO_36003001
                              clear HO_36003002
                              clear HO_36011001
                              clear HO_36011002
                              clear BK36001
                              clear BK36002
                              clear BK36010
                              clear HB
                              clear HI36007
                              have HO_36003001 := n0_
                              have HO_36003002 := n1_
                              have HO_36011001 := n2_
                              have HO_36011002 := n3_
                              have BK36001 := n4_
                              have BK36002 := n5_
                              have BK36010 := n6_
                              have HB := n7_
                              have HI36007 := n8_
                              clear n0_ n1_ n2_ n3_ n4_ n5_ n6_ n7_ n8_
                              (try clear hb)
                              (try clear hb2)
                              (try clear hk)
                              (try clear hi)
                              refine hK.out _ _ ⟨(blk_cell BK36002.out 0).trans rfl, (blk_cell BK36002.out 1).trans rfl, (blk_cell BK36002.out 2).trans rfl⟩ (fun hHeld => ?_)
                              clear hK K
                              refine norm_ (a' := ?_) ?_ ?_
                              rotate_left
                              · show Act.put _ (some 35) _ = _
                                simp only [Act.put, List.setIfInBounds_toArray, List.set_cons_zero, List.set_cons_succ, i64_w, i32_w]
                                rfl
                              refine one_ (i := 3) (N := some 36) #[true, true, true, true, false, false, false, false, false] rfl rfl (one_of HT_.out (by kernel_rfl)) (by decide) (fun K hK => ?_)
                              refine goes_ Try.func45 (by kernel_rfl) rfl #[.agg #[.int .i64 x36003000_1, .slice Ao21 x36003001_1.length co21, .slice Ao22 x36003002_1.length co22], .int .i64 t36064] (by rfl) rfl rfl (by (try simp only [List.map_toArray, List.map_cons, List.map_nil]); first | done | rfl | (simp only [List.length_drop, List.length_take]; rfl)) ?_
                              with_reducible refine (channel_Confirm.calls x36003000_1 _ _ x36003001_1 _ _ x36003002_1 t36064 t36066 t36067 t36070 t36073 _ ?side1 ?side2 ?side3 ?side4 A111.out).mono ?_
                              (case side1 => exact Kd.C_ext (Kd.R_reads' HO_36003001.out).2.2)
                              (case side2 => exact (Kd.R_reads' HO_36003001.out).2.1)
                              (case side3 => exact Kd.C_ext (Kd.R_reads' HO_36003002.out).2.2)
                              (case side4 => exact (Kd.R_reads' HO_36003002.out).2.1)
                              rintro e w115 ⟨v36068, v36071, rfl, ho0, ho1, hb⟩
                              refine ⟨_, rfl, ?_⟩
                              have n4_ := Aside0.mk (Kd.R_lower (Kd.R_new' (Kd.R_new' (Kd.R_new' (Kd.R_new' ho0 (Kd.R_lt (Kd.R_ext HO_36003001.out))) (Kd.R_lt (Kd.R_ext HO_36003002.out))) (Kd.R_lt (Kd.R_ext HO_36011001.out))) (Kd.R_lt (Kd.R_ext HO_36011002.out))) (below_size (by repeat (first | (with_reducible first | exact HB.out | apply bA | apply bN | apply b1 | refine bS ?_ (IsS79.ge HI36007.out) | refine bS ?_ GE36001.out | refine bS ?_ GE36002.out | refine bS ?_ GE36010.out) | exact HB.out))))
                              have n5_ := Aside0.mk (Kd.R_lower (Kd.R_new' (Kd.R_new' (Kd.R_new' (Kd.R_new' ho1 (Kd.R_lt (Kd.R_ext HO_36003001.out))) (Kd.R_lt (Kd.R_ext HO_36003002.out))) (Kd.R_lt (Kd.R_ext HO_36011001.out))) (Kd.R_lt (Kd.R_ext HO_36011002.out))) (below_size (by repeat (first | (with_reducible first | exact HB.out | apply bA | apply bN | apply b1 | refine bS ?_ (IsS79.ge HI36007.out) | refine bS ?_ GE36001.out | refine bS ?_ GE36002.out | refine bS ?_ GE36010.out) | exact HB.out))))
                              have n9_ := Aside0.mk (IsS79.below (by repeat (first | (with_reducible first | exact HI36007.out | apply IsS79.alloc | apply IsS79.drewN | apply IsS79.drew | apply IsS79.set_1 | refine IsS79.far ?_ NB36007_36001.out _ | refine IsS79.far ?_ NB36007_36002.out _ | refine IsS79.far ?_ NB36007_36010.out _) | exact HI36007.out)) hb)
                              have n10_ := Aside0.mk (below_step (by repeat (first | (with_reducible first | exact HB.out | apply bA | apply bN | apply b1 | refine bS ?_ (IsS79.ge HI36007.out) | refine bS ?_ GE36001.out | refine bS ?_ GE36002.out | refine bS ?_ GE36010.out) | exact HB.out)) hb)
                              clear HI36007
                              clear HB
                              have HO36069 := n4_
                              have HO36072 := n5_
                              have HI36007 := n9_
                              have HB := n10_
                              replace HO_36003001 := tdR2 HO_36003001 hb (Kd.R_base ho0) (Kd.R_base ho1)
                              replace HO_36003002 := tdR2 HO_36003002 hb (Kd.R_base ho0) (Kd.R_base ho1)
                              replace HO_36011001 := tdR2 HO_36011001 hb (Kd.R_base ho0) (Kd.R_base ho1)
                              replace HO_36011002 := tdR2 HO_36011002 hb (Kd.R_base ho0) (Kd.R_base ho1)
                              replace BK36001 := mvB BK36001 hb
                              replace BK36002 := mvB BK36002 hb
                              replace BK36010 := mvB BK36010 hb
                              clear n4_ n5_ n9_ n10_
                              (try clear hb)
                              (try clear hb2)
                              (try clear hk)
                              (try clear hi)
                              (try clear ho0)
                              (try clear ho1)
                              obtain ⟨Ao117, co117, eo117⟩ := Kd.R_slice HO36069.out
                              (first | subst eo117 | (injection eo117 with f1_ f2_ f3_; have f4_ := f1_.symm; have f5_ := f3_.symm; clear f1_ f2_ f3_; subst f4_; subst f5_))
                              obtain ⟨Ao119, co119, eo119⟩ := Kd.R_slice HO36072.out
                              (first | subst eo119 | (injection eo119 with f1_ f2_ f3_; have f4_ := f1_.symm; have f5_ := f3_.symm; clear f1_ f2_ f3_; subst f4_; subst f5_))
                              refine hK.out _ _ ⟨(blk_cell BK36002.out 0).trans rfl, (blk_cell BK36002.out 1).trans rfl, (blk_cell BK36002.out 2).trans rfl⟩ (fun hHeld => ?_)
                              clear hK K
                              refine norm_ (a' := ?_) ?_ ?_
                              rotate_left
                              · show Act.put _ (some 36) _ = _
                                simp only [Act.put, List.setIfInBounds_toArray, List.set_cons_zero, List.set_cons_succ, i64_w, i32_w]
                                rfl
                              refine pure_ (i := 4) (N := some 32) (v := ?_) (a' := ?_) #[true, true, true, true, true, false, false, false, false] rfl rfl (any_of HT_.out (by kernel_rfl)) (fun _ _ _ h => h) (Or.inl ⟨by rfl, ?_⟩) ?_ ?_
                              rotate_left
                              · intro w'
                                go_simp
                                with_reducible rfl
                              rotate_left
                              · simp only [Act.put, List.setIfInBounds_toArray, List.set_cons_zero, List.set_cons_succ, i64_w, i32_w]
                                rfl
                              refine pure_ (i := 5) (N := some 37) (v := ?_) (a' := ?_) #[true, true, true, true, true, true, false, false, false] rfl rfl (any_of HT_.out (by kernel_rfl)) (fun _ _ _ h => h) (Or.inl ⟨by rfl, ?_⟩) ?_ ?_
                              rotate_left
                              · intro w'
                                go_simp
                                with_reducible rfl
                              rotate_left
                              · simp only [Act.put, List.setIfInBounds_toArray, List.set_cons_zero, List.set_cons_succ, i64_w, i32_w]
                                rfl
                              refine pure_ (i := 6) (N := some 38) (v := ?_) (a' := ?_) #[true, true, true, true, true, true, true, false, false] rfl rfl (any_of HT_.out (by kernel_rfl)) (fun _ _ _ h => h) (Or.inl ⟨by rfl, ?_⟩) ?_ ?_
                              rotate_left
                              · intro w'
                                go_simp
                                with_reducible rfl
                              rotate_left
                              · simp only [Act.put, List.setIfInBounds_toArray, List.set_cons_zero, List.set_cons_succ, i64_w, i32_w]
                                rfl
                              refine one_ (i := 7) (N := none) #[true, true, true, true, true, true, true, true, false] rfl rfl (one_of HT_.out (by kernel_rfl)) (by decide) (fun K hK => ?_)
                              have hs116 : w115.cell? ⟨gb36010, 0, none⟩ = some (.int .i64 x36003000_1) := (blk_cell BK36010.out 0).trans rfl
                              have hfs116 := blk_frozen BK36010.out 0
                              have hns116_0 := NB36001_36010.out
                              have hns116_1 := NB36002_36010.out
                              have hms116_0 := NB36010_36001.out
                              have hms116_1 := NB36010_36002.out
                              have hs118 : w115.cell? ⟨gb36010, 1, none⟩ = some (.slice Ao21 x36003001_1.length co21) := (blk_cell BK36010.out 1).trans rfl
                              have hfs118 := blk_frozen BK36010.out 1
                              have hns118_0 := NB36001_36010.out
                              have hns118_1 := NB36002_36010.out
                              have hms118_0 := NB36010_36001.out
                              have hms118_1 := NB36010_36002.out
                              have hs120 : w115.cell? ⟨gb36010, 2, none⟩ = some (.slice Ao22 x36003002_1.length co22) := (blk_cell BK36010.out 2).trans rfl
                              have hfs120 := blk_frozen BK36010.out 2
                              have hns120_0 := NB36001_36010.out
                              have hns120_1 := NB36002_36010.out
                              have hms120_0 := NB36010_36001.out
                              have hms120_1 := NB36010_36002.out
                              refine skip_ (w1 := ?_) (by rfl) rfl ?_ ?_
                              rotate_left
                              · go_simp
                                rfl
                              refine hK.out _ _ ⟨((cell_far (p := ⟨gb36010, _, none⟩) NB36002_36010.out _).trans (((cell_far (p := ⟨gb36010, _, none⟩) NB36002_36010.out _).trans (((cell_far (p := ⟨gb36010, _, none⟩) NB36002_36010.out _).trans (hHeld.1)))))), ((cell_far (p := ⟨gb36010, _, none⟩) NB36002_36010.out _).trans (((cell_far (p := ⟨gb36010, _, none⟩) NB36002_36010.out _).trans (((cell_far (p := ⟨gb36010, _, none⟩) NB36002_36010.out _).trans (hHeld.2.1)))))), ((cell_far (p := ⟨gb36010, _, none⟩) NB36002_36010.out _).trans (((cell_far (p := ⟨gb36010, _, none⟩) NB36002_36010.out _).trans (((cell_far (p := ⟨gb36010, _, none⟩) NB36002_36010.out _).trans (hHeld.2.2))))))⟩ (fun hHeld => ?_)
                              clear hK K
                              refine pure_ (i := 8) (N := some 12) (v := ?_) (a' := ?_) #[true, true, true, true, true, true, true, true, true] rfl rfl (any_of HT_.out (by kernel_rfl)) (fun _ _ _ h => h) (Or.inl ⟨by rfl, ?_⟩) ?_ ?_
                              rotate_left
                              · intro w'
                                go_simp
                                with_reducible rfl
                              rotate_left
                              · simp only [Act.put, List.setIfInBounds_toArray, List.set_cons_zero, List.set_cons_succ, i64_w, i32_w]
                                rfl
                              refine done_ (done_of HT_.out (by kernel_rfl)) ?_
                              try go_wp2
                              go_meet
                              case rel => exact ⟨_, (x7_1), (x8_1), (t36073), (t36065), (t36066), (t36067), (t36070), (.slice Ao117 t36067.length co117), (.slice Ao119 t36070.length co119), (by first | rfl | (simp; done) | (simp [*]; done)), (by first | rfl | (simp; done) | (simp [*]; done)), (by first | rfl | (simp; done) | (simp [*]; done)), H', ⟨by have := HK1.out; have := HJ24.out; have := HJ43.out; first | omega | exact Nat.le_refl _⟩, ⟨Kd.R_ext (Kd.R_mono (Kd.R_far (p := ⟨gb36010, 2, none⟩) (Kd.R_far (p := ⟨gb36010, 1, none⟩) (Kd.R_far (p := ⟨gb36010, 0, none⟩) (Kd.R_types HO_36003001.out BK36010.out (by decide)) (fun _ hk => hk.2) (.int .i64 t36066)) (fun _ hk => hk.2) (.slice Ao117 t36067.length co117)) (fun _ hk => hk.2) (.slice Ao119 t36070.length co119)) (fun _ hk => ⟨hk.1.1.1.1, hk.1.2⟩))⟩, ⟨Kd.R_ext (Kd.R_mono (Kd.R_far (p := ⟨gb36010, 2, none⟩) (Kd.R_far (p := ⟨gb36010, 1, none⟩) (Kd.R_far (p := ⟨gb36010, 0, none⟩) (Kd.R_types HO_36003002.out BK36010.out (by decide)) (fun _ hk => hk.2) (.int .i64 t36066)) (fun _ hk => hk.2) (.slice Ao117 t36067.length co117)) (fun _ hk => hk.2) (.slice Ao119 t36070.length co119)) (fun _ hk => ⟨hk.1.1.1.1, hk.1.1.2⟩))⟩, ⟨Kd.R_ext (Kd.R_mono (Kd.R_far (p := ⟨gb36010, 2, none⟩) (Kd.R_far (p := ⟨gb36010, 1, none⟩) (Kd.R_far (p := ⟨gb36010, 0, none⟩) (Kd.R_types HO36069.out BK36010.out (by decide)) (fun _ hk => hk.2) (.int .i64 t36066)) (fun _ hk => hk.2) (.slice Ao117 t36067.length co117)) (fun _ hk => hk.2) (.slice Ao119 t36070.length co119)) (fun _ hk => ⟨hk.1.1.1.2, hk.1.1.1.1.1⟩))⟩, ⟨Kd.R_ext (Kd.R_mono (Kd.R_far (p := ⟨gb36010, 2, none⟩) (Kd.R_far (p := ⟨gb36010, 1, none⟩) (Kd.R_far (p := ⟨gb36010, 0, none⟩) (Kd.R_types HO36072.out BK36010.out (by decide)) (fun _ hk => hk.2) (.int .i64 t36066)) (fun _ hk => hk.2) (.slice Ao117 t36067.length co117)) (fun _ hk => hk.2) (.slice Ao119 t36070.length co119)) (fun _ hk => ⟨hk.1.1.1.1.2, hk.1.1.1.1.1⟩))⟩, ⟨blk_extC BK36001.out⟩, ⟨blk_extC BK36002.out⟩, ⟨by (with_reducible repeat (first | refine blk_drewN ?_ _ | refine blk_drew ?_ | refine blk_alloc ?_ _)); refine blk_put (cs := #[.int .i64 t36066, .slice Ao117 t36067.length co117, .slice Ao22 x36003002_1.length co22]) ?_ 2 _ rfl; (with_reducible repeat (first | refine blk_drewN ?_ _ | refine blk_drew ?_ | refine blk_alloc ?_ _)); refine blk_put (cs := #[.int .i64 t36066, .slice Ao21 x36003001_1.length co21, .slice Ao22 x36003002_1.length co22]) ?_ 1 _ rfl; (with_reducible repeat (first | refine blk_drewN ?_ _ | refine blk_drew ?_ | refine blk_alloc ?_ _)); refine blk_put (cs := #[.int .i64 x36003000_1, .slice Ao21 x36003001_1.length co21, .slice Ao22 x36003002_1.length co22]) ?_ 0 _ rfl; exact blk_ext BK36010.out⟩, ⟨by repeat (first | (with_reducible first | exact HI36007.out | apply IsS79.alloc | apply IsS79.drewN | apply IsS79.drew | apply IsS79.set_1 | refine IsS79.far ?_ NB36007_36001.out _ | refine IsS79.far ?_ NB36007_36002.out _ | refine IsS79.far ?_ NB36007_36010.out _) | exact HI36007.out)⟩, ⟨by repeat (first | (with_reducible first | exact HB.out | apply bA | apply bN | apply b1 | refine bS ?_ (IsS79.ge HI36007.out) | refine bS ?_ GE36001.out | refine bS ?_ GE36002.out | refine bS ?_ GE36010.out) | exact HB.out)⟩⟩
        case rest =>
          clear HC11
          try clear p2
          try clear c4
          try clear c6
          try clear c8
          try clear c9
          try clear c43
          try clear c45
          try clear c47
          try clear c69
          try clear c86
          try clear c86b0
          try clear c86b1
          try clear c98
          try clear c98b0
          try clear c98b1
          obtain ⟨kq, x7_10, x8_10, x12_10, x36008001_10, x36011000_10, x36011001_10, x36011002_10, u36011001, u36011002, rfl, rfl, rfl, HA, HJ10, HO_36003001, HO_36003002, HO_36011001, HO_36011002, BK36001, BK36002, BK36010, HI36007, HB⟩ := hcut
          cases kq with
          | zero => exact absurd HA.out (by simp [customslaw38_play.j3])
          | succ kj10 =>
            have H := HA.out
            clear HA
            simp only [customslaw38_play.j3] at H
            by_cases c121 : x12_10 = 0
            · rw [if_pos c121] at H
              have c121b0 : (x12_10 == 0) = true := beq_iff_eq.mpr c121
              have c121b1 : (x12_10 != 0) = false := bne_eq_false_iff_eq.mpr c121
              clear c121
              by_cases c122 : x36011000_10 > x8_10
              · rw [if_pos c122] at H
                have c122b0 : decide (x8_10 < x36011000_10) = true := decide_eq_true c122
                clear c122
                simp only [Option.some.injEq, Prod.mk.injEq] at H
                obtain ⟨rfl, rfl, rfl, rfl, rfl, rfl⟩ := H
                have hnb123 := NB36010_36001.out
                have hnc123 := NB36001_36010.out
                have hnb124 := NB36010_36002.out
                have hnc124 := NB36002_36010.out
                have hnb125 := NB36010_36007.out
                have hnc125 := NB36007_36010.out
                have hcz126_0 : wc.cell? ⟨gb36010, 0, none⟩ = some (.int .i64 x36011000_10) := (blk_cell BK36010.out 0).trans rfl
                have hcz126_1 : wc.cell? ⟨gb36010, 1, none⟩ = some (u36011001) := (blk_cell BK36010.out 1).trans rfl
                have hcz126_2 : wc.cell? ⟨gb36010, 2, none⟩ = some (u36011002) := (blk_cell BK36010.out 2).trans rfl
                have hfz126_0 := blk_frozen BK36010.out 0
                have hfz126_1 := blk_frozen BK36010.out 1
                have hfz126_2 := blk_frozen BK36010.out 2
                have hnb127 := NB36002_36001.out
                have hnc127 := NB36001_36002.out
                have hnb128 := NB36002_36007.out
                have hnc128 := NB36007_36002.out
                have hcz129_0 : wc.cell? ⟨gb36002, 0, none⟩ = some (.int .i64 x36003000_1) := (blk_cell BK36002.out 0).trans rfl
                have hcz129_1 : wc.cell? ⟨gb36002, 1, none⟩ = some (.slice Ao21 x36003001_1.length co21) := (blk_cell BK36002.out 1).trans rfl
                have hcz129_2 : wc.cell? ⟨gb36002, 2, none⟩ = some (.slice Ao22 x36003002_1.length co22) := (blk_cell BK36002.out 2).trans rfl
                have hfz129_0 := blk_frozen BK36002.out 0
                have hfz129_1 := blk_frozen BK36002.out 1
                have hfz129_2 := blk_frozen BK36002.out 2
                obtain ⟨Ao130, co130, eo130⟩ := Kd.R_slice HO_36011001.out
                subst eo130
                obtain ⟨Ao131, co131, eo131⟩ := Kd.R_slice HO_36011002.out
                subst eo131
                have hnb132 := NB36001_36007.out
                have hnc132 := NB36007_36001.out
                have hcz133_0 : wc.cell? ⟨gb36001, 0, none⟩ = some (.int .i64 x36002000_1) := (blk_cell BK36001.out 0).trans rfl
                have hcz133_1 : wc.cell? ⟨gb36001, 1, none⟩ = some (.slice none 0 0) := (blk_cell BK36001.out 1).trans rfl
                have hcz133_2 : wc.cell? ⟨gb36001, 2, none⟩ = some (.slice none 0 0) := (blk_cell BK36001.out 2).trans rfl
                have hfz133_0 := blk_frozen BK36001.out 0
                have hfz133_1 := blk_frozen BK36001.out 1
                have hfz133_2 := blk_frozen BK36001.out 2
                go_wp2
                refine bodyPost_ret (results_list (rs := [.cell 2 44, .tmp 3, .tmp 4, .tmp 5]) rfl (by simp) (.cell gb36001 44 #[.int .i64 x36011000_10, .slice Ao130 x36011001_10.length co130, .slice Ao131 x36011002_10.length co131] (0, 0) _ rfl (by (with_reducible repeat (first | refine blk_drewN ?_ _ | refine blk_drew ?_ | refine blk_alloc ?_ _)); refine blk_put (cs := #[.int .i64 x36011000_10, .slice Ao130 x36011001_10.length co130, .slice none 0 0]) ?_ 2 _ rfl; (with_reducible repeat (first | refine blk_drewN ?_ _ | refine blk_drew ?_ | refine blk_alloc ?_ _)); refine blk_put (cs := #[.int .i64 x36011000_10, .slice none 0 0, .slice none 0 0]) ?_ 1 _ rfl; (with_reducible repeat (first | refine blk_drewN ?_ _ | refine blk_drew ?_ | refine blk_alloc ?_ _)); refine blk_put (cs := #[.int .i64 x36002000_1, .slice none 0 0, .slice none 0 0]) ?_ 0 _ rfl; (with_reducible repeat (first | refine blk_drewN ?_ _ | refine blk_drew ?_ | refine blk_alloc ?_ _)); refine blk_far ?_ NB36001_36002.out _; (with_reducible repeat (first | refine blk_drewN ?_ _ | refine blk_drew ?_ | refine blk_alloc ?_ _)); refine blk_far ?_ NB36001_36002.out _; (with_reducible repeat (first | refine blk_drewN ?_ _ | refine blk_drew ?_ | refine blk_alloc ?_ _)); refine blk_far ?_ NB36001_36002.out _; exact blk_ext BK36001.out) Try.underlying44 rfl (by kernel_rfl) (.tmp (.tmp (.tmp .nil))))) rfl ?_
                exact ⟨_, _, by first | rfl | (simp [errW_none, errW_some] <;> rfl) | (simp [*, errW_none, errW_some] <;> rfl), Kd.R_ext (Kd.R_mono (Kd.R_far (p := ⟨gb36001, 2, none⟩) (Kd.R_far (p := ⟨gb36001, 1, none⟩) (Kd.R_far (p := ⟨gb36001, 0, none⟩) (Kd.R_far (p := ⟨gb36002, 2, none⟩) (Kd.R_far (p := ⟨gb36002, 1, none⟩) (Kd.R_far (p := ⟨gb36002, 0, none⟩) (Kd.R_types (Kd.R_types HO_36011001.out BK36002.out (by decide)) BK36001.out (by decide)) (fun _ hk => hk.1.2) (.int .i64 x36011000_10)) (fun _ hk => hk.1.2) (.slice Ao130 x36011001_10.length co130)) (fun _ hk => hk.1.2) (.slice Ao131 x36011002_10.length co131)) (fun _ hk => hk.2) (.int .i64 x36011000_10)) (fun _ hk => hk.2) (.slice Ao130 x36011001_10.length co130)) (fun _ hk => hk.2) (.slice Ao131 x36011002_10.length co131)) (fun _ hk => hk.1.1.2)), Kd.R_ext (Kd.R_mono (Kd.R_far (p := ⟨gb36001, 2, none⟩) (Kd.R_far (p := ⟨gb36001, 1, none⟩) (Kd.R_far (p := ⟨gb36001, 0, none⟩) (Kd.R_far (p := ⟨gb36002, 2, none⟩) (Kd.R_far (p := ⟨gb36002, 1, none⟩) (Kd.R_far (p := ⟨gb36002, 0, none⟩) (Kd.R_types (Kd.R_types HO_36011002.out BK36002.out (by decide)) BK36001.out (by decide)) (fun _ hk => hk.1.2) (.int .i64 x36011000_10)) (fun _ hk => hk.1.2) (.slice Ao130 x36011001_10.length co130)) (fun _ hk => hk.1.2) (.slice Ao131 x36011002_10.length co131)) (fun _ hk => hk.2) (.int .i64 x36011000_10)) (fun _ hk => hk.2) (.slice Ao130 x36011001_10.length co130)) (fun _ hk => hk.2) (.slice Ao131 x36011002_10.length co131)) (fun _ hk => hk.1.1.2)), by repeat (first | (with_reducible first | exact HB.out | apply bA | apply bN | apply b1 | refine bS ?_ (IsS79.ge HI36007.out) | refine bS ?_ GE36001.out | refine bS ?_ GE36002.out | refine bS ?_ GE36010.out) | exact HB.out)⟩
              · rw [if_neg c122] at H
                have c122b0 : decide (x8_10 < x36011000_10) = false := decide_eq_false c122
                clear c122
                by_cases c134 : x8_10 > x7_10
                · rw [if_pos c134] at H
                  have c134b0 : decide (x7_10 < x8_10) = true := decide_eq_true c134
                  clear c134
                  simp only [Option.some.injEq, Prod.mk.injEq] at H
                  obtain ⟨rfl, rfl, rfl, rfl, rfl, rfl⟩ := H
                  have hnb135 := NB36010_36001.out
                  have hnc135 := NB36001_36010.out
                  have hnb136 := NB36010_36002.out
                  have hnc136 := NB36002_36010.out
                  have hnb137 := NB36010_36007.out
                  have hnc137 := NB36007_36010.out
                  have hcz138_0 : wc.cell? ⟨gb36010, 0, none⟩ = some (.int .i64 x36011000_10) := (blk_cell BK36010.out 0).trans rfl
                  have hcz138_1 : wc.cell? ⟨gb36010, 1, none⟩ = some (u36011001) := (blk_cell BK36010.out 1).trans rfl
                  have hcz138_2 : wc.cell? ⟨gb36010, 2, none⟩ = some (u36011002) := (blk_cell BK36010.out 2).trans rfl
                  have hfz138_0 := blk_frozen BK36010.out 0
                  have hfz138_1 := blk_frozen BK36010.out 1
                  have hfz138_2 := blk_frozen BK36010.out 2
                  have hnb139 := NB36002_36001.out
                  have hnc139 := NB36001_36002.out
                  have hnb140 := NB36002_36007.out
                  have hnc140 := NB36007_36002.out
                  have hcz141_0 : wc.cell? ⟨gb36002, 0, none⟩ = some (.int .i64 x36003000_1) := (blk_cell BK36002.out 0).trans rfl
                  have hcz141_1 : wc.cell? ⟨gb36002, 1, none⟩ = some (.slice Ao21 x36003001_1.length co21) := (blk_cell BK36002.out 1).trans rfl
                  have hcz141_2 : wc.cell? ⟨gb36002, 2, none⟩ = some (.slice Ao22 x36003002_1.length co22) := (blk_cell BK36002.out 2).trans rfl
                  have hfz141_0 := blk_frozen BK36002.out 0
                  have hfz141_1 := blk_frozen BK36002.out 1
                  have hfz141_2 := blk_frozen BK36002.out 2
                  obtain ⟨Ao142, co142, eo142⟩ := Kd.R_slice HO_36011001.out
                  subst eo142
                  obtain ⟨Ao143, co143, eo143⟩ := Kd.R_slice HO_36011002.out
                  subst eo143
                  have hnb144 := NB36001_36007.out
                  have hnc144 := NB36007_36001.out
                  have hcz145_0 : wc.cell? ⟨gb36001, 0, none⟩ = some (.int .i64 x36002000_1) := (blk_cell BK36001.out 0).trans rfl
                  have hcz145_1 : wc.cell? ⟨gb36001, 1, none⟩ = some (.slice none 0 0) := (blk_cell BK36001.out 1).trans rfl
                  have hcz145_2 : wc.cell? ⟨gb36001, 2, none⟩ = some (.slice none 0 0) := (blk_cell BK36001.out 2).trans rfl
                  have hfz145_0 := blk_frozen BK36001.out 0
                  have hfz145_1 := blk_frozen BK36001.out 1
                  have hfz145_2 := blk_frozen BK36001.out 2
                  go_wp2
                  refine bodyPost_ret (results_list (rs := [.cell 2 44, .tmp 3, .tmp 4, .tmp 5]) rfl (by simp) (.cell gb36001 44 #[.int .i64 x36011000_10, .slice Ao142 x36011001_10.length co142, .slice Ao143 x36011002_10.length co143] (0, 0) _ rfl (by (with_reducible repeat (first | refine blk_drewN ?_ _ | refine blk_drew ?_ | refine blk_alloc ?_ _)); refine blk_put (cs := #[.int .i64 x36011000_10, .slice Ao142 x36011001_10.length co142, .slice none 0 0]) ?_ 2 _ rfl; (with_reducible repeat (first | refine blk_drewN ?_ _ | refine blk_drew ?_ | refine blk_alloc ?_ _)); refine blk_put (cs := #[.int .i64 x36011000_10, .slice none 0 0, .slice none 0 0]) ?_ 1 _ rfl; (with_reducible repeat (first | refine blk_drewN ?_ _ | refine blk_drew ?_ | refine blk_alloc ?_ _)); refine blk_put (cs := #[.int .i64 x36002000_1, .slice none 0 0, .slice none 0 0]) ?_ 0 _ rfl; (with_reducible repeat (first | refine blk_drewN ?_ _ | refine blk_drew ?_ | refine blk_alloc ?_ _)); refine blk_far ?_ NB36001_36002.out _; (with_reducible repeat (first | refine blk_drewN ?_ _ | refine blk_drew ?_ | refine blk_alloc ?_ _)); refine blk_far ?_ NB36001_36002.out _; (with_reducible repeat (first | refine blk_drewN ?_ _ | refine blk_drew ?_ | refine blk_alloc ?_ _)); refine blk_far ?_ NB36001_36002.out _; exact blk_ext BK36001.out) Try.underlying44 rfl (by kernel_rfl) (.tmp (.tmp (.tmp .nil))))) rfl ?_
                  exact ⟨_, _, by first | rfl | (simp [errW_none, errW_some] <;> rfl) | (simp [*, errW_none, errW_some] <;> rfl), Kd.R_ext (Kd.R_mono (Kd.R_far (p := ⟨gb36001, 2, none⟩) (Kd.R_far (p := ⟨gb36001, 1, none⟩) (Kd.R_far (p := ⟨gb36001, 0, none⟩) (Kd.R_far (p := ⟨gb36002, 2, none⟩) (Kd.R_far (p := ⟨gb36002, 1, none⟩) (Kd.R_far (p := ⟨gb36002, 0, none⟩) (Kd.R_types (Kd.R_types HO_36011001.out BK36002.out (by decide)) BK36001.out (by decide)) (fun _ hk => hk.1.2) (.int .i64 x36011000_10)) (fun _ hk => hk.1.2) (.slice Ao142 x36011001_10.length co142)) (fun _ hk => hk.1.2) (.slice Ao143 x36011002_10.length co143)) (fun _ hk => hk.2) (.int .i64 x36011000_10)) (fun _ hk => hk.2) (.slice Ao142 x36011001_10.length co142)) (fun _ hk => hk.2) (.slice Ao143 x36011002_10.length co143)) (fun _ hk => hk.1.1.2)), Kd.R_ext (Kd.R_mono (Kd.R_far (p := ⟨gb36001, 2, none⟩) (Kd.R_far (p := ⟨gb36001, 1, none⟩) (Kd.R_far (p := ⟨gb36001, 0, none⟩) (Kd.R_far (p := ⟨gb36002, 2, none⟩) (Kd.R_far (p := ⟨gb36002, 1, none⟩) (Kd.R_far (p := ⟨gb36002, 0, none⟩) (Kd.R_types (Kd.R_types HO_36011002.out BK36002.out (by decide)) BK36001.out (by decide)) (fun _ hk => hk.1.2) (.int .i64 x36011000_10)) (fun _ hk => hk.1.2) (.slice Ao142 x36011001_10.length co142)) (fun _ hk => hk.1.2) (.slice Ao143 x36011002_10.length co143)) (fun _ hk => hk.2) (.int .i64 x36011000_10)) (fun _ hk => hk.2) (.slice Ao142 x36011001_10.length co142)) (fun _ hk => hk.2) (.slice Ao143 x36011002_10.length co143)) (fun _ hk => hk.1.1.2)), by repeat (first | (with_reducible first | exact HB.out | apply bA | apply bN | apply b1 | refine bS ?_ (IsS79.ge HI36007.out) | refine bS ?_ GE36001.out | refine bS ?_ GE36002.out | refine bS ?_ GE36010.out) | exact HB.out)⟩
                · rw [if_neg c134] at H
                  have c134b0 : decide (x7_10 < x8_10) = false := decide_eq_false c134
                  clear c134
                  have H' := Aside0.mk H
                  clear H
                  have hnb146 := NB36010_36001.out
                  have hnc146 := NB36001_36010.out
                  have hnb147 := NB36010_36002.out
                  have hnc147 := NB36002_36010.out
                  have hnb148 := NB36010_36007.out
                  have hnc148 := NB36007_36010.out
                  have hcz149_0 : wc.cell? ⟨gb36010, 0, none⟩ = some (.int .i64 x36011000_10) := (blk_cell BK36010.out 0).trans rfl
                  have hcz149_1 : wc.cell? ⟨gb36010, 1, none⟩ = some (u36011001) := (blk_cell BK36010.out 1).trans rfl
                  have hcz149_2 : wc.cell? ⟨gb36010, 2, none⟩ = some (u36011002) := (blk_cell BK36010.out 2).trans rfl
                  have hfz149_0 := blk_frozen BK36010.out 0
                  have hfz149_1 := blk_frozen BK36010.out 1
                  have hfz149_2 := blk_frozen BK36010.out 2
                  have hnb150 := NB36002_36001.out
                  have hnc150 := NB36001_36002.out
                  have hnb151 := NB36002_36007.out
                  have hnc151 := NB36007_36002.out
                  have hcz152_0 : wc.cell? ⟨gb36002, 0, none⟩ = some (.int .i64 x36003000_1) := (blk_cell BK36002.out 0).trans rfl
                  have hcz152_1 : wc.cell? ⟨gb36002, 1, none⟩ = some (.slice Ao21 x36003001_1.length co21) := (blk_cell BK36002.out 1).trans rfl
                  have hcz152_2 : wc.cell? ⟨gb36002, 2, none⟩ = some (.slice Ao22 x36003002_1.length co22) := (blk_cell BK36002.out 2).trans rfl
                  have hfz152_0 := blk_frozen BK36002.out 0
                  have hfz152_1 := blk_frozen BK36002.out 1
                  have hfz152_2 := blk_frozen BK36002.out 2
                  obtain ⟨Ao153, co153, eo153⟩ := Kd.R_slice HO_36011001.out
                  subst eo153
                  obtain ⟨Ao154, co154, eo154⟩ := Kd.R_slice HO_36011002.out
                  subst eo154
                  go_wp2
                  go_roundg kj10
                  case measure => have := HK1.out; have := HJ10.out; omega
                  case rel => exact ⟨(x7_10), (x8_10), (x36002000_1), (x36011000_10), (x36011001_10), (x36011002_10), (x36008001_10), (.slice Ao153 x36011001_10.length co153), (.slice Ao154 x36011002_10.length co154), (by first | rfl | (simp; done) | (simp [*]; done)), (by first | rfl | (simp; done) | (simp [*]; done)), H', ⟨by have := HK1.out; have := HJ10.out; omega⟩, ⟨Kd.R_ext (Kd.R_mono (Kd.R_far (p := ⟨gb36002, 2, none⟩) (Kd.R_far (p := ⟨gb36002, 1, none⟩) (Kd.R_far (p := ⟨gb36002, 0, none⟩) (Kd.R_types HO_36011001.out BK36002.out (by decide)) (fun _ hk => hk.2) (.int .i64 x36011000_10)) (fun _ hk => hk.2) (.slice Ao153 x36011001_10.length co153)) (fun _ hk => hk.2) (.slice Ao154 x36011002_10.length co154)) (fun _ hk => hk.1.2))⟩, ⟨Kd.R_ext (Kd.R_mono (Kd.R_far (p := ⟨gb36002, 2, none⟩) (Kd.R_far (p := ⟨gb36002, 1, none⟩) (Kd.R_far (p := ⟨gb36002, 0, none⟩) (Kd.R_types HO_36011002.out BK36002.out (by decide)) (fun _ hk => hk.2) (.int .i64 x36011000_10)) (fun _ hk => hk.2) (.slice Ao153 x36011001_10.length co153)) (fun _ hk => hk.2) (.slice Ao154 x36011002_10.length co154)) (fun _ hk => hk.1.2))⟩, ⟨blk_extC BK36001.out⟩, ⟨by (with_reducible repeat (first | refine blk_drewN ?_ _ | refine blk_drew ?_ | refine blk_alloc ?_ _)); refine blk_put (cs := #[.int .i64 x36011000_10, .slice Ao153 x36011001_10.length co153, .slice Ao22 x36003002_1.length co22]) ?_ 2 _ rfl; (with_reducible repeat (first | refine blk_drewN ?_ _ | refine blk_drew ?_ | refine blk_alloc ?_ _)); refine blk_put (cs := #[.int .i64 x36011000_10, .slice Ao21 x36003001_1.length co21, .slice Ao22 x36003002_1.length co22]) ?_ 1 _ rfl; (with_reducible repeat (first | refine blk_drewN ?_ _ | refine blk_drew ?_ | refine blk_alloc ?_ _)); refine blk_put (cs := #[.int .i64 x36003000_1, .slice Ao21 x36003001_1.length co21, .slice Ao22 x36003002_1.length co22]) ?_ 0 _ rfl; exact blk_ext BK36002.out⟩, ⟨by repeat (first | (with_reducible first | exact HI36007.out | apply IsS79.alloc | apply IsS79.drewN | apply IsS79.drew | apply IsS79.set_1 | refine IsS79.far ?_ NB36007_36001.out _ | refine IsS79.far ?_ NB36007_36002.out _ | refine IsS79.far ?_ NB36007_36010.out _) | exact HI36007.out)⟩, ⟨by repeat (first | (with_reducible first | exact HB.out | apply bA | apply bN | apply b1 | refine bS ?_ (IsS79.ge HI36007.out) | refine bS ?_ GE36001.out | refine bS ?_ GE36002.out | refine bS ?_ GE36010.out) | exact HB.out)⟩⟩
            · rw [if_neg c121] at H
              have c121b0 : (x12_10 == 0) = false := beq_eq_false_iff_ne.mpr c121
              have c121b1 : (x12_10 != 0) = true := bne_iff_ne.mpr c121
              by_cases c155 : x36003000_1 > x8_10
              · rw [if_pos c155] at H
                have c155b0 : decide (x8_10 < x36003000_1) = true := decide_eq_true c155
                clear c155
                simp only [Option.some.injEq, Prod.mk.injEq] at H
                obtain ⟨rfl, rfl, rfl, rfl, rfl, rfl⟩ := H
                have hnb156 := NB36002_36001.out
                have hnc156 := NB36001_36002.out
                have hnb157 := NB36002_36010.out
                have hnc157 := NB36010_36002.out
                have hnb158 := NB36002_36007.out
                have hnc158 := NB36007_36002.out
                have hcz159_0 : wc.cell? ⟨gb36002, 0, none⟩ = some (.int .i64 x36003000_1) := (blk_cell BK36002.out 0).trans rfl
                have hcz159_1 : wc.cell? ⟨gb36002, 1, none⟩ = some (.slice Ao21 x36003001_1.length co21) := (blk_cell BK36002.out 1).trans rfl
                have hcz159_2 : wc.cell? ⟨gb36002, 2, none⟩ = some (.slice Ao22 x36003002_1.length co22) := (blk_cell BK36002.out 2).trans rfl
                have hfz159_0 := blk_frozen BK36002.out 0
                have hfz159_1 := blk_frozen BK36002.out 1
                have hfz159_2 := blk_frozen BK36002.out 2
                have hnb160 := NB36001_36010.out
                have hnc160 := NB36010_36001.out
                have hnb161 := NB36001_36007.out
                have hnc161 := NB36007_36001.out
                have hcz162_0 : wc.cell? ⟨gb36001, 0, none⟩ = some (.int .i64 x36002000_1) := (blk_cell BK36001.out 0).trans rfl
                have hcz162_1 : wc.cell? ⟨gb36001, 1, none⟩ = some (.slice none 0 0) := (blk_cell BK36001.out 1).trans rfl
                have hcz162_2 : wc.cell? ⟨gb36001, 2, none⟩ = some (.slice none 0 0) := (blk_cell BK36001.out 2).trans rfl
                have hfz162_0 := blk_frozen BK36001.out 0
                have hfz162_1 := blk_frozen BK36001.out 1
                have hfz162_2 := blk_frozen BK36001.out 2
                go_wp2
                refine bodyPost_ret (results_list (rs := [.cell 2 44, .tmp 3, .tmp 4, .tmp 5]) rfl (by simp) (.cell gb36001 44 #[.int .i64 x36003000_1, .slice Ao21 x36003001_1.length co21, .slice Ao22 x36003002_1.length co22] (0, 0) _ rfl (by (with_reducible repeat (first | refine blk_drewN ?_ _ | refine blk_drew ?_ | refine blk_alloc ?_ _)); refine blk_put (cs := #[.int .i64 x36003000_1, .slice Ao21 x36003001_1.length co21, .slice none 0 0]) ?_ 2 _ rfl; (with_reducible repeat (first | refine blk_drewN ?_ _ | refine blk_drew ?_ | refine blk_alloc ?_ _)); refine blk_put (cs := #[.int .i64 x36003000_1, .slice none 0 0, .slice none 0 0]) ?_ 1 _ rfl; (with_reducible repeat (first | refine blk_drewN ?_ _ | refine blk_drew ?_ | refine blk_alloc ?_ _)); refine blk_put (cs := #[.int .i64 x36002000_1, .slice none 0 0, .slice none 0 0]) ?_ 0 _ rfl; exact blk_ext BK36001.out) Try.underlying44 rfl (by kernel_rfl) (.tmp (.tmp (.tmp .nil))))) rfl ?_
                exact ⟨_, _, by first | rfl | (simp [errW_none, errW_some] <;> rfl) | (simp [*, errW_none, errW_some] <;> rfl), Kd.R_ext (Kd.R_mono (Kd.R_far (p := ⟨gb36001, 2, none⟩) (Kd.R_far (p := ⟨gb36001, 1, none⟩) (Kd.R_far (p := ⟨gb36001, 0, none⟩) (Kd.R_types HO_36003001.out BK36001.out (by decide)) (fun _ hk => hk.2) (.int .i64 x36003000_1)) (fun _ hk => hk.2) (.slice Ao21 x36003001_1.length co21)) (fun _ hk => hk.2) (.slice Ao22 x36003002_1.length co22)) (fun _ hk => hk.1.1)), Kd.R_ext (Kd.R_mono (Kd.R_far (p := ⟨gb36001, 2, none⟩) (Kd.R_far (p := ⟨gb36001, 1, none⟩) (Kd.R_far (p := ⟨gb36001, 0, none⟩) (Kd.R_types HO_36003002.out BK36001.out (by decide)) (fun _ hk => hk.2) (.int .i64 x36003000_1)) (fun _ hk => hk.2) (.slice Ao21 x36003001_1.length co21)) (fun _ hk => hk.2) (.slice Ao22 x36003002_1.length co22)) (fun _ hk => hk.1.1)), by repeat (first | (with_reducible first | exact HB.out | apply bA | apply bN | apply b1 | refine bS ?_ (IsS79.ge HI36007.out) | refine bS ?_ GE36001.out | refine bS ?_ GE36002.out | refine bS ?_ GE36010.out) | exact HB.out)⟩
              · rw [if_neg c155] at H
                have c155b0 : decide (x8_10 < x36003000_1) = false := decide_eq_false c155
                clear c155
                by_cases c163 : x8_10 > x7_10
                · rw [if_pos c163] at H
                  have c163b0 : decide (x7_10 < x8_10) = true := decide_eq_true c163
                  clear c163
                  simp only [Option.some.injEq, Prod.mk.injEq] at H
                  obtain ⟨rfl, rfl, rfl, rfl, rfl, rfl⟩ := H
                  have hnb164 := NB36002_36001.out
                  have hnc164 := NB36001_36002.out
                  have hnb165 := NB36002_36010.out
                  have hnc165 := NB36010_36002.out
                  have hnb166 := NB36002_36007.out
                  have hnc166 := NB36007_36002.out
                  have hcz167_0 : wc.cell? ⟨gb36002, 0, none⟩ = some (.int .i64 x36003000_1) := (blk_cell BK36002.out 0).trans rfl
                  have hcz167_1 : wc.cell? ⟨gb36002, 1, none⟩ = some (.slice Ao21 x36003001_1.length co21) := (blk_cell BK36002.out 1).trans rfl
                  have hcz167_2 : wc.cell? ⟨gb36002, 2, none⟩ = some (.slice Ao22 x36003002_1.length co22) := (blk_cell BK36002.out 2).trans rfl
                  have hfz167_0 := blk_frozen BK36002.out 0
                  have hfz167_1 := blk_frozen BK36002.out 1
                  have hfz167_2 := blk_frozen BK36002.out 2
                  have hnb168 := NB36001_36010.out
                  have hnc168 := NB36010_36001.out
                  have hnb169 := NB36001_36007.out
                  have hnc169 := NB36007_36001.out
                  have hcz170_0 : wc.cell? ⟨gb36001, 0, none⟩ = some (.int .i64 x36002000_1) := (blk_cell BK36001.out 0).trans rfl
                  have hcz170_1 : wc.cell? ⟨gb36001, 1, none⟩ = some (.slice none 0 0) := (blk_cell BK36001.out 1).trans rfl
                  have hcz170_2 : wc.cell? ⟨gb36001, 2, none⟩ = some (.slice none 0 0) := (blk_cell BK36001.out 2).trans rfl
                  have hfz170_0 := blk_frozen BK36001.out 0
                  have hfz170_1 := blk_frozen BK36001.out 1
                  have hfz170_2 := blk_frozen BK36001.out 2
                  go_wp2
                  refine bodyPost_ret (results_list (rs := [.cell 2 44, .tmp 3, .tmp 4, .tmp 5]) rfl (by simp) (.cell gb36001 44 #[.int .i64 x36003000_1, .slice Ao21 x36003001_1.length co21, .slice Ao22 x36003002_1.length co22] (0, 0) _ rfl (by (with_reducible repeat (first | refine blk_drewN ?_ _ | refine blk_drew ?_ | refine blk_alloc ?_ _)); refine blk_put (cs := #[.int .i64 x36003000_1, .slice Ao21 x36003001_1.length co21, .slice none 0 0]) ?_ 2 _ rfl; (with_reducible repeat (first | refine blk_drewN ?_ _ | refine blk_drew ?_ | refine blk_alloc ?_ _)); refine blk_put (cs := #[.int .i64 x36003000_1, .slice none 0 0, .slice none 0 0]) ?_ 1 _ rfl; (with_reducible repeat (first | refine blk_drewN ?_ _ | refine blk_drew ?_ | refine blk_alloc ?_ _)); refine blk_put (cs := #[.int .i64 x36002000_1, .slice none 0 0, .slice none 0 0]) ?_ 0 _ rfl; exact blk_ext BK36001.out) Try.underlying44 rfl (by kernel_rfl) (.tmp (.tmp (.tmp .nil))))) rfl ?_
                  exact ⟨_, _, by first | rfl | (simp [errW_none, errW_some] <;> rfl) | (simp [*, errW_none, errW_some] <;> rfl), Kd.R_ext (Kd.R_mono (Kd.R_far (p := ⟨gb36001, 2, none⟩) (Kd.R_far (p := ⟨gb36001, 1, none⟩) (Kd.R_far (p := ⟨gb36001, 0, none⟩) (Kd.R_types HO_36003001.out BK36001.out (by decide)) (fun _ hk => hk.2) (.int .i64 x36003000_1)) (fun _ hk => hk.2) (.slice Ao21 x36003001_1.length co21)) (fun _ hk => hk.2) (.slice Ao22 x36003002_1.length co22)) (fun _ hk => hk.1.1)), Kd.R_ext (Kd.R_mono (Kd.R_far (p := ⟨gb36001, 2, none⟩) (Kd.R_far (p := ⟨gb36001, 1, none⟩) (Kd.R_far (p := ⟨gb36001, 0, none⟩) (Kd.R_types HO_36003002.out BK36001.out (by decide)) (fun _ hk => hk.2) (.int .i64 x36003000_1)) (fun _ hk => hk.2) (.slice Ao21 x36003001_1.length co21)) (fun _ hk => hk.2) (.slice Ao22 x36003002_1.length co22)) (fun _ hk => hk.1.1)), by repeat (first | (with_reducible first | exact HB.out | apply bA | apply bN | apply b1 | refine bS ?_ (IsS79.ge HI36007.out) | refine bS ?_ GE36001.out | refine bS ?_ GE36002.out | refine bS ?_ GE36010.out) | exact HB.out)⟩
                · rw [if_neg c163] at H
                  have c163b0 : decide (x7_10 < x8_10) = false := decide_eq_false c163
                  clear c163
                  have H' := Aside0.mk H
                  clear H
                  have hnb171 := NB36002_36001.out
                  have hnc171 := NB36001_36002.out
                  have hnb172 := NB36002_36010.out
                  have hnc172 := NB36010_36002.out
                  have hnb173 := NB36002_36007.out
                  have hnc173 := NB36007_36002.out
                  have hcz174_0 : wc.cell? ⟨gb36002, 0, none⟩ = some (.int .i64 x36003000_1) := (blk_cell BK36002.out 0).trans rfl
                  have hcz174_1 : wc.cell? ⟨gb36002, 1, none⟩ = some (.slice Ao21 x36003001_1.length co21) := (blk_cell BK36002.out 1).trans rfl
                  have hcz174_2 : wc.cell? ⟨gb36002, 2, none⟩ = some (.slice Ao22 x36003002_1.length co22) := (blk_cell BK36002.out 2).trans rfl
                  have hfz174_0 := blk_frozen BK36002.out 0
                  have hfz174_1 := blk_frozen BK36002.out 1
                  have hfz174_2 := blk_frozen BK36002.out 2
                  go_wp2
                  go_roundg kj10
                  case measure => have := HK1.out; have := HJ10.out; omega
                  case rel => exact ⟨(x7_10), (x8_10), (x36002000_1), (x36003000_1), (x36003001_1), (x36003002_1), (x36008001_10), (.slice Ao21 x36003001_1.length co21), (.slice Ao22 x36003002_1.length co22), (by first | rfl | (simp; done) | (simp [*]; done)), (by first | rfl | (simp; done) | (simp [*]; done)), H', ⟨by have := HK1.out; have := HJ10.out; omega⟩, ⟨Kd.R_ext (Kd.R_mono HO_36003001.out (fun _ hk => hk.1))⟩, ⟨Kd.R_ext (Kd.R_mono HO_36003002.out (fun _ hk => hk.1))⟩, ⟨blk_ext BK36001.out⟩, ⟨blk_ext BK36002.out⟩, ⟨by repeat (first | (with_reducible first | exact HI36007.out | apply IsS79.alloc | apply IsS79.drewN | apply IsS79.drew | apply IsS79.set_1 | refine IsS79.far ?_ NB36007_36001.out _ | refine IsS79.far ?_ NB36007_36002.out _ | refine IsS79.far ?_ NB36007_36010.out _) | exact HI36007.out)⟩, ⟨by repeat (first | (with_reducible first | exact HB.out | apply bA | apply bN | apply b1 | refine bS ?_ (IsS79.ge HI36007.out) | refine bS ?_ GE36001.out | refine bS ?_ GE36002.out | refine bS ?_ GE36010.out) | exact HB.out)⟩⟩
      · replace c9 := Bool.eq_false_iff.mpr c9
        subst c9
        have H1 : (some (x36003000_1, x36003001_1, x36003002_1, x7_1, x8_1, true)) = some (r1, r2, r3, r4, r5, r6) := by rw [if_neg (show ¬ (false = true) by decide)] at H; exact H
        clear H
        have H := H1
        clear H1
        simp only [Option.some.injEq, Prod.mk.injEq] at H
        obtain ⟨rfl, rfl, rfl, rfl, rfl, rfl⟩ := H
        go_wp2_with (first | ((with_reducible refine gate_callee (f := 68) rfl ?_); refine goesL_ (some 18) rfl rfl Try.func68 (by kernel_rfl) rfl #[.pointer (some ⟨g36007, 0, none⟩)] rfl (by (try simp only [List.map_toArray, List.map_cons, List.map_nil]); first | done | rfl | (simp only [List.length_drop, List.length_take]; rfl)) ?_; (with_reducible refine (customsmade_Source_Left.calls g36007 t36005 x36008001_1 false t36009 w _ ?side1 ?side2 A8.out).mono ?_); (case side1 => repeat (first | (with_reducible first | exact HI36007.out | apply IsS79.alloc | apply IsS79.drewN | apply IsS79.drew | apply IsS79.set_1 | refine IsS79.far ?_ NB36007_36001.out _ | refine IsS79.far ?_ NB36007_36002.out _) | exact HI36007.out)); (case side2 => repeat (first | (with_reducible first | exact HB.out | apply bA | apply bN | apply b1 | refine bS ?_ (IsS79.ge HI36007.out) | refine bS ?_ GE36001.out | refine bS ?_ GE36002.out) | exact HB.out)); rintro e w175 ⟨rfl, hi, hb, hk⟩; refine ⟨_, rfl, ?_⟩; have n0_ := Aside0.mk (Kd.R_mono (Kd.R_keep (IsS79.apart (show IsS79 w _ g36007 t36005 x36008001_1 from by repeat (first | (with_reducible first | exact HI36007.out | apply IsS79.alloc | apply IsS79.drewN | apply IsS79.drew | apply IsS79.set_1 | refine IsS79.far ?_ NB36007_36001.out _ | refine IsS79.far ?_ NB36007_36002.out _) | exact HI36007.out)) (Kd.R_ext HO_36003001.out) (by decide)) hk (fun _ h => h.2)) (fun _ h => h.1)); have n1_ := Aside0.mk (Kd.R_mono (Kd.R_keep (IsS79.apart (show IsS79 w _ g36007 t36005 x36008001_1 from by repeat (first | (with_reducible first | exact HI36007.out | apply IsS79.alloc | apply IsS79.drewN | apply IsS79.drew | apply IsS79.set_1 | refine IsS79.far ?_ NB36007_36001.out _ | refine IsS79.far ?_ NB36007_36002.out _) | exact HI36007.out)) (Kd.R_ext HO_36003002.out) (by decide)) hk (fun _ h => h.2)) (fun _ h => h.1)); have n2_ := Aside0.mk (KeepBut.blk hk (g' := gb36001) (o := .cells #[.int .i64 x36002000_1, .slice none 0 0, .slice none 0 0] 44 (0, 0)) (blk_ext BK36001.out) NB36001_36007.out (by simp)); have n3_ := Aside0.mk (KeepBut.blk hk (g' := gb36002) (o := .cells #[.int .i64 x36003000_1, u36003001, u36003002] 44 (0, 0)) (blk_ext BK36002.out) NB36002_36007.out (by simp)); have n4_ := Aside0.mk (hb); have n5_ := Aside0.mk (hi); clear HO_36003001; clear HO_36003002; clear BK36001; clear BK36002; clear HB; clear HI36007; have HO_36003001 := n0_; have HO_36003002 := n1_; have BK36001 := n2_; have BK36002 := n3_; have HB := n4_; have HI36007 := n5_; clear n0_ n1_ n2_ n3_ n4_ n5_; (try clear hb); (try clear hb2); (try clear hk); (try clear hi); have hnb176 := NB36002_36001.out; have hnc176 := NB36001_36002.out; have hnb177 := NB36002_36007.out; have hnc177 := NB36007_36002.out; have hcz178_0 : w175.cell? ⟨gb36002, 0, none⟩ = some (.int .i64 x36003000_1) := (blk_cell BK36002.out 0).trans rfl; have hcz178_1 : w175.cell? ⟨gb36002, 1, none⟩ = some (u36003001) := (blk_cell BK36002.out 1).trans rfl; have hcz178_2 : w175.cell? ⟨gb36002, 2, none⟩ = some (u36003002) := (blk_cell BK36002.out 2).trans rfl; have hfz178_0 := blk_frozen BK36002.out 0; have hfz178_1 := blk_frozen BK36002.out 1; have hfz178_2 := blk_frozen BK36002.out 2; have hnb179 := NB36001_36007.out; have hnc179 := NB36007_36001.out; have hcz180_0 : w175.cell? ⟨gb36001, 0, none⟩ = some (.int .i64 x36002000_1) := (blk_cell BK36001.out 0).trans rfl; have hcz180_1 : w175.cell? ⟨gb36001, 1, none⟩ = some (.slice none 0 0) := (blk_cell BK36001.out 1).trans rfl; have hcz180_2 : w175.cell? ⟨gb36001, 2, none⟩ = some (.slice none 0 0) := (blk_cell BK36001.out 2).trans rfl; have hfz180_0 := blk_frozen BK36001.out 0; have hfz180_1 := blk_frozen BK36001.out 1; have hfz180_2 := blk_frozen BK36001.out 2; obtain ⟨Ao181, co181, eo181⟩ := Kd.R_slice HO_36003001.out; subst eo181; obtain ⟨Ao182, co182, eo182⟩ := Kd.R_slice HO_36003002.out; subst eo182))
        refine bodyPost_ret (results_list (rs := [.cell 2 44, .tmp 3, .tmp 4, .tmp 5]) rfl (by simp) (.cell gb36001 44 #[.int .i64 x36003000_1, .slice Ao181 x36003001_1.length co181, .slice Ao182 x36003002_1.length co182] (0, 0) _ rfl (by (with_reducible repeat (first | refine blk_drewN ?_ _ | refine blk_drew ?_ | refine blk_alloc ?_ _)); refine blk_put (cs := #[.int .i64 x36003000_1, .slice Ao181 x36003001_1.length co181, .slice none 0 0]) ?_ 2 _ rfl; (with_reducible repeat (first | refine blk_drewN ?_ _ | refine blk_drew ?_ | refine blk_alloc ?_ _)); refine blk_put (cs := #[.int .i64 x36003000_1, .slice none 0 0, .slice none 0 0]) ?_ 1 _ rfl; (with_reducible repeat (first | refine blk_drewN ?_ _ | refine blk_drew ?_ | refine blk_alloc ?_ _)); refine blk_put (cs := #[.int .i64 x36002000_1, .slice none 0 0, .slice none 0 0]) ?_ 0 _ rfl; exact blk_ext BK36001.out) Try.underlying44 rfl (by kernel_rfl) (.tmp (.tmp (.tmp .nil))))) rfl ?_
        exact ⟨_, _, by first | rfl | (simp [errW_none, errW_some] <;> rfl) | (simp [*, errW_none, errW_some] <;> rfl), Kd.R_ext (Kd.R_mono (Kd.R_far (p := ⟨gb36001, 2, none⟩) (Kd.R_far (p := ⟨gb36001, 1, none⟩) (Kd.R_far (p := ⟨gb36001, 0, none⟩) (Kd.R_types HO_36003001.out BK36001.out (by decide)) (fun _ hk => hk.2) (.int .i64 x36003000_1)) (fun _ hk => hk.2) (.slice Ao181 x36003001_1.length co181)) (fun _ hk => hk.2) (.slice Ao182 x36003002_1.length co182)) (fun _ hk => hk.1)), Kd.R_ext (Kd.R_mono (Kd.R_far (p := ⟨gb36001, 2, none⟩) (Kd.R_far (p := ⟨gb36001, 1, none⟩) (Kd.R_far (p := ⟨gb36001, 0, none⟩) (Kd.R_types HO_36003002.out BK36001.out (by decide)) (fun _ hk => hk.2) (.int .i64 x36003000_1)) (fun _ hk => hk.2) (.slice Ao181 x36003001_1.length co181)) (fun _ hk => hk.2) (.slice Ao182 x36003002_1.length co182)) (fun _ hk => hk.1)), by repeat (first | (with_reducible first | exact HB.out | apply bA | apply bN | apply b1 | refine bS ?_ (IsS79.ge HI36007.out) | refine bS ?_ GE36001.out | refine bS ?_ GE36002.out) | exact HB.out)⟩

end Go.Proofs.Ytfljnggpnndmkaa.Z
