/- Written by a program of this session: each Go function as a plain Lean function, and that the machine's call does what it says. Conditions: none but those each theorem states. -/
import Derived.Test.YtfljnggpnndmkaaZ0
import Derived.Test.YtfljnggpnndmkaaZcustomsref33SameBytes
import Derived.Test.YtfljnggpnndmkaaZcustomsref33SameDisk
import Derived.Test.YtfljnggpnndmkaaZcustomsref33Sync
import Derived.Test.YtfljnggpnndmkaaZjournalPut
import Derived.Test.YtfljnggpnndmkaaZjournalAppend
import Derived.Test.YtfljnggpnndmkaaZjournalOpen
import Derived.Test.YtfljnggpnndmkaaZcustomslaw34awake
import Derived.Test.YtfljnggpnndmkaaZcustomslaw34cut
import Derived.Test.YtfljnggpnndmkaaZcustomsref33Put
import Derived.Test.YtfljnggpnndmkaaZcustomsref33Append
import Derived.Test.YtfljnggpnndmkaaZcustomsref33Open
import Derived.Test.YtfljnggpnndmkaaZcustomsref33SameRecords
namespace Go.Proofs.Ytfljnggpnndmkaa.Z
open Go.RowKit Go.Proofs.YtfljnggpnndmkaaW.PrintWords Go.Proofs.YtfljnggpnndmkaaW.PrintLast Go.Proofs.YtfljnggpnndmkaaW.PrintMore
attribute [local go_sem] max2_int min2_int max_two min_two max_three min_three max_four min_four   -- for this text's walks alone
set_option linter.unusedVariables false
set_option linter.unusedSimpArgs false

/-! ### customslaw34_JournalOpen: function 13 -/
mutual
def customslaw34_JournalOpen.j3 : Nat → Int → List Int → List Int → List Int → Option (Bool)
  | 0, _, _, _, _ => none
  | k + 1, x13003000, x13003001, x13007000, x13007001 => (journal_Put.f k x13007000 x13007001 x13003000 x13003001).bind fun bt13022 => ((customsref33_Put.f k x13007000 x13007001 x13003000 x13003001).bind fun bt13030 => ((journal_Append.f k x13007000 x13007001 x13003001).bind fun bt13038 => ((customsref33_Append.f k x13007000 x13007001 x13003001).bind fun bt13046 => (if bt13022.2.2 = bt13030.2.2 then ((customsref33_SameDisk.f bt13022.1 bt13022.2.1 bt13030.1 bt13030.2.1).bind fun t13054 => (if t13054 = true then (if bt13038.2.2 = bt13046.2.2 then ((customsref33_SameDisk.f bt13038.1 bt13038.2.1 bt13046.1 bt13046.2.1).bind fun t13055 => (customslaw34_JournalOpen.j4 k (!t13055) x13007000 x13007001)) else (customslaw34_JournalOpen.j4 k true x13007000 x13007001)) else (customslaw34_JournalOpen.j4 k true x13007000 x13007001))) else (customslaw34_JournalOpen.j4 k true x13007000 x13007001)))))
def customslaw34_JournalOpen.j4 : Nat → Bool → List Int → List Int → Option (Bool)
  | 0, _, _, _ => none
  | k + 1, x113, x13007000, x13007001 => if x113 = true then (none) else ((journal_Open.f k x13007000 x13007001).bind fun bt13056 => ((customsref33_Open.f k x13007000 x13007001).bind fun bt13070 => ((customsref33_SameDisk.f bt13056.1 bt13056.2.1 bt13070.1 bt13070.2.1).bind fun t13084 => (if t13084 = true then ((customsref33_SameBytes.f bt13056.2.2.1 bt13070.2.2.1).bind fun t13085 => (if t13085 = true then (if (bt13056.2.2.2.1 == bt13070.2.2.2.1) = true then ((customsref33_SameRecords.f k bt13056.2.2.2.2 bt13070.2.2.2.2).bind fun t13086 => (if t13086 = true then ((customslaw34_awake.f k).bind fun t13087 => (some t13087)) else (none))) else (none)) else (none))) else (none)))))
def customslaw34_JournalOpen.l0 : Nat → List (List Int) → List Bool → Int → Int → List Int → List Int → List Int → Option (Bool)
  | 0, _, _, _, _, _, _, _ => none
  | k + 1, x0, x1, x12, x13003000, x13003001, x13007000, x13007001 => if x12 < (x0.length : Int) then (if x12 < (x1.length : Int) then (if 0 ≤ x12 then (customslaw34_JournalOpen.j1 k x0 x1 x12 1 (rdOf false x1 x12) x13003000 x13003001 x13007000 x13007001) else (none)) else (customslaw34_JournalOpen.j1 k x0 x1 x12 1 false x13003000 x13003001 x13007000 x13007001)) else (customslaw34_JournalOpen.j3 k x13003000 x13003001 x13007000 x13007001)
def customslaw34_JournalOpen.j1 : Nat → List (List Int) → List Bool → Int → Int → Bool → Int → List Int → List Int → List Int → Option (Bool)
  | 0, _, _, _, _, _, _, _, _, _ => none
  | k + 1, x0, x1, x12, x13, x51, x13003000, x13003001, x13007000, x13007001 => if x51 = true then (customslaw34_JournalOpen.j2 k x0 x1 x12 2 x13003000 x13003001 x13007000 x13007001) else (customslaw34_JournalOpen.j2 k x0 x1 x12 x13 x13003000 x13003001 x13007000 x13007001)
def customslaw34_JournalOpen.j2 : Nat → List (List Int) → List Bool → Int → Int → Int → List Int → List Int → List Int → Option (Bool)
  | 0, _, _, _, _, _, _, _, _ => none
  | k + 1, x0, x1, x12, x13, x13003000, x13003001, x13007000, x13007001 => if 0 ≤ x12 then (if x12 < (x0.length : Int) then ((customsref33_Put.f k x13007000 x13007001 x13 (rd_L1 x0 x12)).bind fun bt13009 => (if (Int.tmod x12 3) = 1 then ((customsref33_Sync.f bt13009.1 bt13009.2.1).bind fun bt13016 => (customslaw34_JournalOpen.l0 k x0 x1 (wrap64 (x12 + 1)) x13003000 x13003001 bt13016.1 bt13016.2)) else (customslaw34_JournalOpen.l0 k x0 x1 (wrap64 (x12 + 1)) x13003000 x13003001 bt13009.1 bt13009.2.1))) else (none)) else (none)
end
def customslaw34_JournalOpen.f (k : Nat) (l0 : List (List Int)) (l1 : List Bool) (l2_0 : List Int) (l2_1 : List Int) (a3_0 : Int) (l3_1 : List Int) (a4 : Bool) : Option (Bool) := (customslaw34_cut.f k l0).bind fun t13003 => (if a4 = true then (customslaw34_JournalOpen.j3 k a3_0 l3_1 l2_0 l2_1) else (customslaw34_JournalOpen.l0 k t13003 l1 0 a3_0 l3_1 ([] : List Int) ([] : List Int)))
theorem customslaw34_JournalOpen.mono_l : ∀ k, (∀ y0 y1 y2 y3, LeO (customslaw34_JournalOpen.j3 k y0 y1 y2 y3) (customslaw34_JournalOpen.j3 (k + 1) y0 y1 y2 y3)) ∧ (∀ y0 y1 y2, LeO (customslaw34_JournalOpen.j4 k y0 y1 y2) (customslaw34_JournalOpen.j4 (k + 1) y0 y1 y2)) ∧ (∀ y0 y1 y2 y3 y4 y5 y6, LeO (customslaw34_JournalOpen.l0 k y0 y1 y2 y3 y4 y5 y6) (customslaw34_JournalOpen.l0 (k + 1) y0 y1 y2 y3 y4 y5 y6)) ∧ (∀ y0 y1 y2 y3 y4 y5 y6 y7 y8, LeO (customslaw34_JournalOpen.j1 k y0 y1 y2 y3 y4 y5 y6 y7 y8) (customslaw34_JournalOpen.j1 (k + 1) y0 y1 y2 y3 y4 y5 y6 y7 y8)) ∧ (∀ y0 y1 y2 y3 y4 y5 y6 y7, LeO (customslaw34_JournalOpen.j2 k y0 y1 y2 y3 y4 y5 y6 y7) (customslaw34_JournalOpen.j2 (k + 1) y0 y1 y2 y3 y4 y5 y6 y7))
  | 0 => ⟨fun _ _ _ _ r h => by simp [customslaw34_JournalOpen.j3] at h, fun _ _ _ r h => by simp [customslaw34_JournalOpen.j4] at h, fun _ _ _ _ _ _ _ r h => by simp [customslaw34_JournalOpen.l0] at h, fun _ _ _ _ _ _ _ _ _ r h => by simp [customslaw34_JournalOpen.j1] at h, fun _ _ _ _ _ _ _ _ r h => by simp [customslaw34_JournalOpen.j2] at h⟩
  | k + 1 => by
    obtain ⟨ih0, ih1, ih2, ih3, ih4⟩ := customslaw34_JournalOpen.mono_l k
    refine ⟨?_, ?_, ?_, ?_, ?_⟩
    · intro y0 y1 y2 y3
      unfold customslaw34_JournalOpen.j3
      repeat' first
      | (with_reducible exact ih0 _ _ _ _)
      | (with_reducible exact ih1 _ _ _)
      | (with_reducible exact ih2 _ _ _ _ _ _ _)
      | (with_reducible exact ih3 _ _ _ _ _ _ _ _ _)
      | (with_reducible exact ih4 _ _ _ _ _ _ _ _)
      | (with_reducible exact customslaw34_awake.mono _)
      | (with_reducible exact customslaw34_cut.mono _ _)
      | (with_reducible exact customsref33_Append.mono _ _ _ _)
      | (with_reducible exact customsref33_Open.mono _ _ _)
      | (with_reducible exact customsref33_Put.mono _ _ _ _ _)
      | (with_reducible exact customsref33_SameRecords.mono _ _ _)
      | (with_reducible exact journal_Append.mono _ _ _ _)
      | (with_reducible exact journal_Open.mono _ _ _)
      | (with_reducible exact journal_Put.mono _ _ _ _ _)
      | (with_reducible exact LeO.refl _)
      | (with_reducible exact LeO.none _)
      | (with_reducible refine LeO.ite ?_ ?_)
      | (with_reducible refine LeO.bind ?_ (fun _ => ?_))
      | exact ih0 _ _ _ _
      | exact ih1 _ _ _
      | exact ih2 _ _ _ _ _ _ _
      | exact ih3 _ _ _ _ _ _ _ _ _
      | exact ih4 _ _ _ _ _ _ _ _
      | exact customslaw34_awake.mono _
      | exact customslaw34_cut.mono _ _
      | exact customsref33_Append.mono _ _ _ _
      | exact customsref33_Open.mono _ _ _
      | exact customsref33_Put.mono _ _ _ _ _
      | exact customsref33_SameRecords.mono _ _ _
      | exact journal_Append.mono _ _ _ _
      | exact journal_Open.mono _ _ _
      | exact journal_Put.mono _ _ _ _ _
      | exact LeO.none _
      | refine LeO.ite ?_ ?_
      | refine LeO.bind ?_ (fun _ => ?_)
    · intro y0 y1 y2
      unfold customslaw34_JournalOpen.j4
      repeat' first
      | (with_reducible exact ih0 _ _ _ _)
      | (with_reducible exact ih1 _ _ _)
      | (with_reducible exact ih2 _ _ _ _ _ _ _)
      | (with_reducible exact ih3 _ _ _ _ _ _ _ _ _)
      | (with_reducible exact ih4 _ _ _ _ _ _ _ _)
      | (with_reducible exact customslaw34_awake.mono _)
      | (with_reducible exact customslaw34_cut.mono _ _)
      | (with_reducible exact customsref33_Append.mono _ _ _ _)
      | (with_reducible exact customsref33_Open.mono _ _ _)
      | (with_reducible exact customsref33_Put.mono _ _ _ _ _)
      | (with_reducible exact customsref33_SameRecords.mono _ _ _)
      | (with_reducible exact journal_Append.mono _ _ _ _)
      | (with_reducible exact journal_Open.mono _ _ _)
      | (with_reducible exact journal_Put.mono _ _ _ _ _)
      | (with_reducible exact LeO.refl _)
      | (with_reducible exact LeO.none _)
      | (with_reducible refine LeO.ite ?_ ?_)
      | (with_reducible refine LeO.bind ?_ (fun _ => ?_))
      | exact ih0 _ _ _ _
      | exact ih1 _ _ _
      | exact ih2 _ _ _ _ _ _ _
      | exact ih3 _ _ _ _ _ _ _ _ _
      | exact ih4 _ _ _ _ _ _ _ _
      | exact customslaw34_awake.mono _
      | exact customslaw34_cut.mono _ _
      | exact customsref33_Append.mono _ _ _ _
      | exact customsref33_Open.mono _ _ _
      | exact customsref33_Put.mono _ _ _ _ _
      | exact customsref33_SameRecords.mono _ _ _
      | exact journal_Append.mono _ _ _ _
      | exact journal_Open.mono _ _ _
      | exact journal_Put.mono _ _ _ _ _
      | exact LeO.none _
      | refine LeO.ite ?_ ?_
      | refine LeO.bind ?_ (fun _ => ?_)
    · intro y0 y1 y2 y3 y4 y5 y6
      unfold customslaw34_JournalOpen.l0
      repeat' first
      | (with_reducible exact ih0 _ _ _ _)
      | (with_reducible exact ih1 _ _ _)
      | (with_reducible exact ih2 _ _ _ _ _ _ _)
      | (with_reducible exact ih3 _ _ _ _ _ _ _ _ _)
      | (with_reducible exact ih4 _ _ _ _ _ _ _ _)
      | (with_reducible exact customslaw34_awake.mono _)
      | (with_reducible exact customslaw34_cut.mono _ _)
      | (with_reducible exact customsref33_Append.mono _ _ _ _)
      | (with_reducible exact customsref33_Open.mono _ _ _)
      | (with_reducible exact customsref33_Put.mono _ _ _ _ _)
      | (with_reducible exact customsref33_SameRecords.mono _ _ _)
      | (with_reducible exact journal_Append.mono _ _ _ _)
      | (with_reducible exact journal_Open.mono _ _ _)
      | (with_reducible exact journal_Put.mono _ _ _ _ _)
      | (with_reducible exact LeO.refl _)
      | (with_reducible exact LeO.none _)
      | (with_reducible refine LeO.ite ?_ ?_)
      | (with_reducible refine LeO.bind ?_ (fun _ => ?_))
      | exact ih0 _ _ _ _
      | exact ih1 _ _ _
      | exact ih2 _ _ _ _ _ _ _
      | exact ih3 _ _ _ _ _ _ _ _ _
      | exact ih4 _ _ _ _ _ _ _ _
      | exact customslaw34_awake.mono _
      | exact customslaw34_cut.mono _ _
      | exact customsref33_Append.mono _ _ _ _
      | exact customsref33_Open.mono _ _ _
      | exact customsref33_Put.mono _ _ _ _ _
      | exact customsref33_SameRecords.mono _ _ _
      | exact journal_Append.mono _ _ _ _
      | exact journal_Open.mono _ _ _
      | exact journal_Put.mono _ _ _ _ _
      | exact LeO.none _
      | refine LeO.ite ?_ ?_
      | refine LeO.bind ?_ (fun _ => ?_)
    · intro y0 y1 y2 y3 y4 y5 y6 y7 y8
      unfold customslaw34_JournalOpen.j1
      repeat' first
      | (with_reducible exact ih0 _ _ _ _)
      | (with_reducible exact ih1 _ _ _)
      | (with_reducible exact ih2 _ _ _ _ _ _ _)
      | (with_reducible exact ih3 _ _ _ _ _ _ _ _ _)
      | (with_reducible exact ih4 _ _ _ _ _ _ _ _)
      | (with_reducible exact customslaw34_awake.mono _)
      | (with_reducible exact customslaw34_cut.mono _ _)
      | (with_reducible exact customsref33_Append.mono _ _ _ _)
      | (with_reducible exact customsref33_Open.mono _ _ _)
      | (with_reducible exact customsref33_Put.mono _ _ _ _ _)
      | (with_reducible exact customsref33_SameRecords.mono _ _ _)
      | (with_reducible exact journal_Append.mono _ _ _ _)
      | (with_reducible exact journal_Open.mono _ _ _)
      | (with_reducible exact journal_Put.mono _ _ _ _ _)
      | (with_reducible exact LeO.refl _)
      | (with_reducible exact LeO.none _)
      | (with_reducible refine LeO.ite ?_ ?_)
      | (with_reducible refine LeO.bind ?_ (fun _ => ?_))
      | exact ih0 _ _ _ _
      | exact ih1 _ _ _
      | exact ih2 _ _ _ _ _ _ _
      | exact ih3 _ _ _ _ _ _ _ _ _
      | exact ih4 _ _ _ _ _ _ _ _
      | exact customslaw34_awake.mono _
      | exact customslaw34_cut.mono _ _
      | exact customsref33_Append.mono _ _ _ _
      | exact customsref33_Open.mono _ _ _
      | exact customsref33_Put.mono _ _ _ _ _
      | exact customsref33_SameRecords.mono _ _ _
      | exact journal_Append.mono _ _ _ _
      | exact journal_Open.mono _ _ _
      | exact journal_Put.mono _ _ _ _ _
      | exact LeO.none _
      | refine LeO.ite ?_ ?_
      | refine LeO.bind ?_ (fun _ => ?_)
    · intro y0 y1 y2 y3 y4 y5 y6 y7
      unfold customslaw34_JournalOpen.j2
      repeat' first
      | (with_reducible exact ih0 _ _ _ _)
      | (with_reducible exact ih1 _ _ _)
      | (with_reducible exact ih2 _ _ _ _ _ _ _)
      | (with_reducible exact ih3 _ _ _ _ _ _ _ _ _)
      | (with_reducible exact ih4 _ _ _ _ _ _ _ _)
      | (with_reducible exact customslaw34_awake.mono _)
      | (with_reducible exact customslaw34_cut.mono _ _)
      | (with_reducible exact customsref33_Append.mono _ _ _ _)
      | (with_reducible exact customsref33_Open.mono _ _ _)
      | (with_reducible exact customsref33_Put.mono _ _ _ _ _)
      | (with_reducible exact customsref33_SameRecords.mono _ _ _)
      | (with_reducible exact journal_Append.mono _ _ _ _)
      | (with_reducible exact journal_Open.mono _ _ _)
      | (with_reducible exact journal_Put.mono _ _ _ _ _)
      | (with_reducible exact LeO.refl _)
      | (with_reducible exact LeO.none _)
      | (with_reducible refine LeO.ite ?_ ?_)
      | (with_reducible refine LeO.bind ?_ (fun _ => ?_))
      | exact ih0 _ _ _ _
      | exact ih1 _ _ _
      | exact ih2 _ _ _ _ _ _ _
      | exact ih3 _ _ _ _ _ _ _ _ _
      | exact ih4 _ _ _ _ _ _ _ _
      | exact customslaw34_awake.mono _
      | exact customslaw34_cut.mono _ _
      | exact customsref33_Append.mono _ _ _ _
      | exact customsref33_Open.mono _ _ _
      | exact customsref33_Put.mono _ _ _ _ _
      | exact customsref33_SameRecords.mono _ _ _
      | exact journal_Append.mono _ _ _ _
      | exact journal_Open.mono _ _ _
      | exact journal_Put.mono _ _ _ _ _
      | exact LeO.none _
      | refine LeO.ite ?_ ?_
      | refine LeO.bind ?_ (fun _ => ?_)
theorem customslaw34_JournalOpen.mono : ∀ a0 a1 a2 a3 a4 a5 a6 k, LeO (customslaw34_JournalOpen.f k a0 a1 a2 a3 a4 a5 a6) (customslaw34_JournalOpen.f (k + 1) a0 a1 a2 a3 a4 a5 a6) := by
  intro a0 a1 a2 a3 a4 a5 a6 k
  obtain ⟨ih0, ih1, ih2, ih3, ih4⟩ := customslaw34_JournalOpen.mono_l k
  unfold customslaw34_JournalOpen.f
  repeat' first
      | (with_reducible exact ih0 _ _ _ _)
      | (with_reducible exact ih1 _ _ _)
      | (with_reducible exact ih2 _ _ _ _ _ _ _)
      | (with_reducible exact ih3 _ _ _ _ _ _ _ _ _)
      | (with_reducible exact ih4 _ _ _ _ _ _ _ _)
      | (with_reducible exact customslaw34_awake.mono _)
      | (with_reducible exact customslaw34_cut.mono _ _)
      | (with_reducible exact customsref33_Append.mono _ _ _ _)
      | (with_reducible exact customsref33_Open.mono _ _ _)
      | (with_reducible exact customsref33_Put.mono _ _ _ _ _)
      | (with_reducible exact customsref33_SameRecords.mono _ _ _)
      | (with_reducible exact journal_Append.mono _ _ _ _)
      | (with_reducible exact journal_Open.mono _ _ _)
      | (with_reducible exact journal_Put.mono _ _ _ _ _)
      | (with_reducible exact LeO.refl _)
      | (with_reducible exact LeO.none _)
      | (with_reducible refine LeO.ite ?_ ?_)
      | (with_reducible refine LeO.bind ?_ (fun _ => ?_))
      | exact ih0 _ _ _ _
      | exact ih1 _ _ _
      | exact ih2 _ _ _ _ _ _ _
      | exact ih3 _ _ _ _ _ _ _ _ _
      | exact ih4 _ _ _ _ _ _ _ _
      | exact customslaw34_awake.mono _
      | exact customslaw34_cut.mono _ _
      | exact customsref33_Append.mono _ _ _ _
      | exact customsref33_Open.mono _ _ _
      | exact customsref33_Put.mono _ _ _ _ _
      | exact customsref33_SameRecords.mono _ _ _
      | exact journal_Append.mono _ _ _ _
      | exact journal_Open.mono _ _ _
      | exact journal_Put.mono _ _ _ _ _
      | exact LeO.none _
      | refine LeO.ite ?_ ?_
      | refine LeO.bind ?_ (fun _ => ?_)
def customslaw34_JournalOpen.T11 : Bool × List (List Nat × List Nat) := (true, [([], []), ([], []), ([], []), ([], []), ([2, 3], [2, 3]), ([4], [4]), ([1, 5], [1, 5]), ([0, 6], [0, 6]), ([7], [7]), ([8], [8]), ([8], [8]), ([9, 7, 0, 1, 2, 3, 4, 5, 6, 7, 8, 9], [9])])
def customslaw34_JournalOpen.B11 : List Nat := [0, 0, 0, 0, 12, 28, 62, 127, 255, 511, 511, 1023]
theorem customslaw34_JournalOpen.tab11 : rtab .any (opsOf Try.f13 11) = customslaw34_JournalOpen.T11 := by kernel_rfl
theorem customslaw34_JournalOpen.bits11 : waitsOk customslaw34_JournalOpen.T11.2 customslaw34_JournalOpen.B11 = true := by kernel_rfl
set_option maxHeartbeats 8000000 in
set_option maxRecDepth 100000 in
theorem customslaw34_JournalOpen.calls (k : Nat) (P0_ : Nat → Prop) (A0 : Option Addr) (c0 : Nat) (l0 : List (List Int)) (A1 : Option Addr) (c1 : Nat) (l1 : List Bool) (P2_0_ : Nat → Prop) (A2_0 : Option Addr) (c2_0 : Nat) (l2_0 : List Int) (P2_1_ : Nat → Prop) (A2_1 : Option Addr) (c2_1 : Nat) (l2_1 : List Int) (a3_0 : Int) (P3_1_ : Nat → Prop) (A3_1 : Option Addr) (c3_1 : Nat) (l3_1 : List Int) (a4 : Bool) (r : Bool) (w : World) (hs0 : Kd.V (Kd.slice 5 (Kd.int .u8)) 22 w w.heap.size (fun k_ => P0_ k_) (.slice A0 l0.length c0) l0) (hr1 : Kd.C Kd.bool w A1 l1.length l1) (hc1 : l1.length ≤ c1) (hs2_0 : Kd.V (Kd.int .u8) 5 w w.heap.size (fun k_ => P2_0_ k_) (.slice A2_0 l2_0.length c2_0) l2_0) (hs2_1 : Kd.V (Kd.int .u8) 5 w w.heap.size (fun k_ => P2_1_ k_) (.slice A2_1 l2_1.length c2_1) l2_1) (hs3_1 : Kd.V (Kd.int .u8) 5 w w.heap.size (fun k_ => P3_1_ k_) (.slice A3_1 l3_1.length c3_1) l3_1) (h : customslaw34_JournalOpen.f k l0 l1 l2_0 l2_1 a3_0 l3_1 a4 = some r) :
    Calls Try.prog 13 #[.slice A0 l0.length c0, .slice A1 l1.length c1, .agg #[.slice A2_0 l2_0.length c2_0, .slice A2_1 l2_1.length c2_1], .agg #[.int .i64 a3_0, .slice A3_1 l3_1.length c3_1], .bool a4] w fun e w' => e = .returned (.bool r) ∧ Below w.heap.size w w' := by
  have hu24 := Try.underlying24
  have hu57 := Try.underlying57
  have HO0 := Aside0.mk (show Kd.V (Kd.slice 5 (Kd.int .u8)) 22 w w.heap.size (fun k_ => ((P0_ k_ ∨ P2_0_ k_ ∨ P2_1_ k_ ∨ P3_1_ k_) ∨ w.heap.size ≤ k_)) (.slice A0 l0.length c0) l0 from Kd.V_mono hs0 (fun k_ hk => .inl (.inl hk)))
  have HR1 := Aside0.mk hr1
  have HC1 := Aside0.mk hc1
  clear hr1 hc1
  have HO2_0 := Aside0.mk (show Kd.V (Kd.int .u8) 5 w w.heap.size (fun k_ => ((P0_ k_ ∨ P2_0_ k_ ∨ P2_1_ k_ ∨ P3_1_ k_) ∨ w.heap.size ≤ k_)) (.slice A2_0 l2_0.length c2_0) l2_0 from Kd.V_mono hs2_0 (fun k_ hk => .inl (.inr (.inl hk))))
  have HO2_1 := Aside0.mk (show Kd.V (Kd.int .u8) 5 w w.heap.size (fun k_ => ((P0_ k_ ∨ P2_0_ k_ ∨ P2_1_ k_ ∨ P3_1_ k_) ∨ w.heap.size ≤ k_)) (.slice A2_1 l2_1.length c2_1) l2_1 from Kd.V_mono hs2_1 (fun k_ hk => .inl (.inr (.inr (.inl hk)))))
  have HO3_1 := Aside0.mk (show Kd.V (Kd.int .u8) 5 w w.heap.size (fun k_ => ((P0_ k_ ∨ P2_0_ k_ ∨ P2_1_ k_ ∨ P3_1_ k_) ∨ w.heap.size ≤ k_)) (.slice A3_1 l3_1.length c3_1) l3_1 from Kd.V_mono hs3_1 (fun k_ hk => .inl (.inr (.inr (.inr hk)))))
  have HB := Aside0.mk (Below.refl w.heap.size w)
  have H : ((customslaw34_cut.f k l0).bind fun t13003 => (if a4 = true then (customslaw34_JournalOpen.j3 k a3_0 l3_1 l2_0 l2_1) else (customslaw34_JournalOpen.l0 k t13003 l1 0 a3_0 l3_1 ([] : List Int) ([] : List Int)))) = some r := h
  clear h
  replace H := Option.bind_eq_some_iff.mp H
  obtain ⟨t13003, A60, H⟩ := H
  try dsimp only at H
  have A6 := Aside0.mk A60
  clear A60
  have HC7 := Aside0.mk H
  clear H
  go_enter Try.func13, Try.ntmps13
  go_upto_if 34 with (first | ((with_reducible refine gate_dst (N := 7) rfl ?_); refine box_event ?hg (N := 7) ?hd (cs := #[.slice A2_0 l2_0.length c2_0, .slice A2_1 l2_1.length c2_1]) (t := 24) ?hr ?_; (case hd => rfl); (case hg => rfl); (case hr => first | (go_simp; done) | (go_simp; rfl)); intro gb13001 hg w8 hbox hb; have n0_ := Aside0.mk (Kd.V_below (Kd.V_elderB (Kd.V_ext HO0.out) gb13001 (Nat.le_of_eq hg.symm)) hb); have n1_ := Aside0.mk (Kd.V_below (Kd.V_elderB (Kd.V_ext HO2_0.out) gb13001 (Nat.le_of_eq hg.symm)) hb); have n2_ := Aside0.mk (Kd.V_below (Kd.V_elderB (Kd.V_ext HO2_1.out) gb13001 (Nat.le_of_eq hg.symm)) hb); have n3_ := Aside0.mk (Kd.V_below (Kd.V_elderB (Kd.V_ext HO3_1.out) gb13001 (Nat.le_of_eq hg.symm)) hb); have n4_ := Aside0.mk (below_step (below_ext HB.out) hb); have n5_ := Aside0.mk (hbox); have n6_ := Aside0.mk ((by rw [hg]; exact (below_size (below_ext HB.out)) : w.heap.size ≤ gb13001)); have n7_ := Aside0.mk ((by rw [hg]; exact (below_size (below_ext HB.out)) : w.heap.size ≤ gb13001)); clear HO0; clear HO2_0; clear HO2_1; clear HO3_1; clear HB; have HO0 := n0_; have HO2_0 := n1_; have HO2_1 := n2_; have HO3_1 := n3_; have HB := n4_; have BK13001 := n5_; have GW13001 := n6_; have GE13001 := n7_; have GI13001 := GE_.mk GE13001.out; clear n0_ n1_ n2_ n3_ n4_ n5_ n6_ n7_; clear hb hbox hg) | ((with_reducible refine gate_dst (N := 8) rfl ?_); refine box_event ?hg (N := 8) ?hd (cs := #[.int .i64 a3_0, .slice A3_1 l3_1.length c3_1]) (t := 57) ?hr ?_; (case hd => rfl); (case hg => rfl); (case hr => first | (go_simp; done) | (go_simp; rfl)); intro gb13002 hg w9 hbox hb; have n0_ := Aside0.mk (Kd.V_below (Kd.V_elderB (Kd.V_ext HO0.out) gb13002 (Nat.le_of_eq hg.symm)) hb); have n1_ := Aside0.mk (Kd.V_below (Kd.V_elderB (Kd.V_ext HO2_0.out) gb13002 (Nat.le_of_eq hg.symm)) hb); have n2_ := Aside0.mk (Kd.V_below (Kd.V_elderB (Kd.V_ext HO2_1.out) gb13002 (Nat.le_of_eq hg.symm)) hb); have n3_ := Aside0.mk (Kd.V_below (Kd.V_elderB (Kd.V_ext HO3_1.out) gb13002 (Nat.le_of_eq hg.symm)) hb); have n4_ := Aside0.mk (blk_below (blk_ext BK13001.out) hb); have n5_ := Aside0.mk (below_step (below_extB HB.out) hb); have n6_ := Aside0.mk (hbox); have n7_ := Aside0.mk ((by rw [hg]; exact (below_size (below_extB HB.out)) : w.heap.size ≤ gb13002)); have n8_ := Aside0.mk ((by rw [hg]; exact (below_size (below_extB HB.out)) : w.heap.size ≤ gb13002)); have n9_ := Aside0.mk ((by rw [hg]; exact Nat.ne_of_lt (blk_lt (blk_ext BK13001.out)) : gb13001 ≠ gb13002)); have n10_ := Aside0.mk ((by rw [hg]; exact Nat.ne_of_gt (blk_lt (blk_ext BK13001.out)) : gb13002 ≠ gb13001)); clear HO0; clear HO2_0; clear HO2_1; clear HO3_1; clear BK13001; clear HB; have HO0 := n0_; have HO2_0 := n1_; have HO2_1 := n2_; have HO3_1 := n3_; have BK13001 := n4_; have HB := n5_; have BK13002 := n6_; have GW13002 := n7_; have GE13002 := n8_; have GI13002 := GE_.mk GE13002.out; have NB13001_13002 := n9_; have NB13002_13001 := n10_; clear n0_ n1_ n2_ n3_ n4_ n5_ n6_ n7_ n8_ n9_ n10_; clear hb hbox hg) | ((with_reducible refine gate_callee (f := 56) rfl ?_); refine goesL_ (some 31) rfl rfl Try.func56 (by kernel_rfl) rfl #[.slice A0 l0.length c0] rfl (by (try simp only [List.map_toArray, List.map_cons, List.map_nil]); first | done | rfl | (simp only [List.length_drop, List.length_take]; rfl)) ?_; (with_reducible refine (customslaw34_cut.calls k (fun k_ => ((((P0_ k_ ∨ P2_0_ k_ ∨ P2_1_ k_ ∨ P3_1_ k_) ∨ w.heap.size ≤ k_) ∧ k_ ≠ gb13001) ∧ k_ ≠ gb13002)) _ _ l0 t13003 _ ?side1 A6.out).mono ?_); (case side1 => exact HO0.out); rintro e w10 ⟨v13004, rfl, ho0, hb⟩; refine ⟨_, rfl, ?_⟩; have n0_ := Aside0.mk (Kd.V_elder' (Kd.V_ext HO0.out) (Kd.N_base ho0) hb); have n1_ := Aside0.mk (Kd.V_elder' (Kd.V_ext HO2_0.out) (Kd.N_base ho0) hb); have n2_ := Aside0.mk (Kd.V_elder' (Kd.V_ext HO2_1.out) (Kd.N_base ho0) hb); have n3_ := Aside0.mk (Kd.V_elder' (Kd.V_ext HO3_1.out) (Kd.N_base ho0) hb); have n4_ := Aside0.mk (Kd.N_lower (Kd.N_mono (ok' := fun k_ => ((P0_ k_ ∨ P2_0_ k_ ∨ P2_1_ k_ ∨ P3_1_ k_) ∨ w.heap.size ≤ k_) ∧ k_ ≠ gb13001 ∧ k_ ≠ gb13002) ho0 (fun k_ hk_ => ⟨Or.elim hk_ (fun hs_ => hs_.1.1) (fun hn_ => (.inr (Nat.le_trans (below_size (below_extB HB.out)) hn_))), Or.elim hk_ (fun hs_ => hs_.1.2) (fun hn_ => (Kd.freshB (blk_ext BK13001.out) k_ hn_)), Or.elim hk_ (fun hs_ => hs_.2) (fun hn_ => (Kd.freshB (blk_ext BK13002.out) k_ hn_))⟩)) (below_size (below_extB HB.out))); have n5_ := Aside0.mk (blk_below (blk_ext BK13001.out) hb); have n6_ := Aside0.mk (blk_below (blk_ext BK13002.out) hb); have n7_ := Aside0.mk (below_step (below_extB HB.out) hb); clear HO0; clear HO2_0; clear HO2_1; clear HO3_1; clear BK13001; clear BK13002; clear HB; have HO0 := n0_; have HO2_0 := n1_; have HO2_1 := n2_; have HO3_1 := n3_; have HO13005 := n4_; have BK13001 := n5_; have BK13002 := n6_; have HB := n7_; clear n0_ n1_ n2_ n3_ n4_ n5_ n6_ n7_; (try clear hb); (try clear hb2); (try clear hk); (try clear hi); (try clear ho0); have hnb11 := NB13001_13002.out; have hnc11 := NB13002_13001.out; have hcz12_0 : w10.cell? ⟨gb13001, 0, none⟩ = some (.slice A2_0 l2_0.length c2_0) := (blk_cell BK13001.out 0).trans rfl; have hcz12_1 : w10.cell? ⟨gb13001, 1, none⟩ = some (.slice A2_1 l2_1.length c2_1) := (blk_cell BK13001.out 1).trans rfl; have hfz12_0 := blk_frozen BK13001.out 0; have hfz12_1 := blk_frozen BK13001.out 1) | ((with_reducible refine gate_dst (N := 11) rfl ?_); refine box_event ?hg (N := 11) ?hd (cs := #[.slice none 0 0, .slice none 0 0]) (t := 24) ?hr ?_; (case hd => rfl); (case hg => rfl); (case hr => first | (go_simp; done) | (go_simp; rfl)); intro gb13006 hg w13 hbox hb; have n0_ := Aside0.mk (Kd.V_below (Kd.V_elderB (Kd.V_ext HO0.out) gb13006 (Nat.le_of_eq hg.symm)) hb); have n1_ := Aside0.mk (Kd.V_below (Kd.V_elderB (Kd.V_ext HO2_0.out) gb13006 (Nat.le_of_eq hg.symm)) hb); have n2_ := Aside0.mk (Kd.V_below (Kd.V_elderB (Kd.V_ext HO2_1.out) gb13006 (Nat.le_of_eq hg.symm)) hb); have n3_ := Aside0.mk (Kd.V_below (Kd.V_elderB (Kd.V_ext HO3_1.out) gb13006 (Nat.le_of_eq hg.symm)) hb); have n4_ := Aside0.mk (Kd.N_below (Kd.N_elderB (Kd.N_ext HO13005.out) gb13006 (Nat.le_of_eq hg.symm)) hb); have n5_ := Aside0.mk (blk_below (blk_ext BK13001.out) hb); have n6_ := Aside0.mk (blk_below (blk_ext BK13002.out) hb); have n7_ := Aside0.mk (below_step (below_extB HB.out) hb); have n8_ := Aside0.mk (hbox); have n9_ := Aside0.mk ((by rw [hg]; exact (below_size (below_extB HB.out)) : w.heap.size ≤ gb13006)); have n10_ := Aside0.mk ((by rw [hg]; exact (below_size (below_extB HB.out)) : w.heap.size ≤ gb13006)); have n11_ := Aside0.mk ((by rw [hg]; exact Nat.ne_of_lt (blk_lt (blk_ext BK13001.out)) : gb13001 ≠ gb13006)); have n12_ := Aside0.mk ((by rw [hg]; exact Nat.ne_of_gt (blk_lt (blk_ext BK13001.out)) : gb13006 ≠ gb13001)); have n13_ := Aside0.mk ((by rw [hg]; exact Nat.ne_of_lt (blk_lt (blk_ext BK13002.out)) : gb13002 ≠ gb13006)); have n14_ := Aside0.mk ((by rw [hg]; exact Nat.ne_of_gt (blk_lt (blk_ext BK13002.out)) : gb13006 ≠ gb13002)); clear HO0; clear HO2_0; clear HO2_1; clear HO3_1; clear HO13005; clear BK13001; clear BK13002; clear HB; have HO0 := n0_; have HO2_0 := n1_; have HO2_1 := n2_; have HO3_1 := n3_; have HO13005 := n4_; have BK13001 := n5_; have BK13002 := n6_; have HB := n7_; have BK13006 := n8_; have GW13006 := n9_; have GE13006 := n10_; have GI13006 := GE_.mk GE13006.out; have NB13001_13006 := n11_; have NB13006_13001 := n12_; have NB13002_13006 := n13_; have NB13006_13002 := n14_; clear n0_ n1_ n2_ n3_ n4_ n5_ n6_ n7_ n8_ n9_ n10_ n11_ n12_ n13_ n14_; clear hb hbox hg; have hnb14 := NB13006_13001.out; have hnc14 := NB13001_13006.out; have hnb15 := NB13006_13002.out; have hnc15 := NB13002_13006.out; have hcz16_0 : w13.cell? ⟨gb13006, 0, none⟩ = some (.slice none 0 0) := (blk_cell BK13006.out 0).trans rfl; have hcz16_1 : w13.cell? ⟨gb13006, 1, none⟩ = some (.slice none 0 0) := (blk_cell BK13006.out 1).trans rfl; have hfz16_0 := blk_frozen BK13006.out 0; have hfz16_1 := blk_frozen BK13006.out 1))
  (try simp only [Act.put, List.setIfInBounds_toArray, List.set_cons_zero, List.set_cons_succ])
  go_cut [] (fun wc => ∃ (kq : Nat) (x13007000_6 : List Int) (x13007001_6 : List Int) (u13007000 : Value) (u13007001 : Value), Aside0 (customslaw34_JournalOpen.j3 kq a3_0 l3_1 x13007000_6 x13007001_6 = some r) ∧ Aside0 (kq ≤ k) ∧ Aside0 (Kd.V (Kd.int .u8) 5 wc w.heap.size (fun k_ => ((P0_ k_ ∨ P2_0_ k_ ∨ P2_1_ k_ ∨ P3_1_ k_) ∨ w.heap.size ≤ k_) ∧ k_ ≠ gb13002 ∧ k_ ≠ gb13006) (.slice A3_1 l3_1.length c3_1) l3_1) ∧ Aside0 (Kd.V (Kd.int .u8) 5 wc w.heap.size (fun k_ => ((P0_ k_ ∨ P2_0_ k_ ∨ P2_1_ k_ ∨ P3_1_ k_) ∨ w.heap.size ≤ k_) ∧ k_ ≠ gb13002 ∧ k_ ≠ gb13006) u13007000 x13007000_6) ∧ Aside0 (Kd.V (Kd.int .u8) 5 wc w.heap.size (fun k_ => ((P0_ k_ ∨ P2_0_ k_ ∨ P2_1_ k_ ∨ P3_1_ k_) ∨ w.heap.size ≤ k_) ∧ k_ ≠ gb13002 ∧ k_ ≠ gb13006) u13007001 x13007001_6) ∧ Aside0 (wc.heap[gb13002]? = some (.cells #[.int .i64 a3_0, (.slice A3_1 l3_1.length c3_1)] 57 (0, 0))) ∧ Aside0 (wc.heap[gb13006]? = some (.cells #[u13007000, u13007001] 24 (0, 0))) ∧ Aside0 (Below w.heap.size w wc))
  case first =>
    have H := HC7.out
    clear HC7
    by_cases c17 : a4 = true
    · subst c17
      have H1 : (customslaw34_JournalOpen.j3 k a3_0 l3_1 l2_0 l2_1) = some r := by rw [if_pos rfl] at H; exact H
      clear H
      have H := H1
      clear H1
      have H' := Aside0.mk H
      clear H
      go_wp2
      go_meet
      case rel => exact ⟨_, (l2_0), (l2_1), (.slice A2_0 l2_0.length c2_0), (.slice A2_1 l2_1.length c2_1), H', ⟨by first | omega | exact Nat.le_refl _⟩, ⟨Kd.V_ext (Kd.V_mono (Kd.V_far (p := ⟨gb13006, 1, none⟩) (Kd.V_far (p := ⟨gb13006, 0, none⟩) (Kd.V_mono HO3_1.out (fun k_ hk => (⟨hk, hk.2⟩ : _ ∧ k_ ≠ gb13006))) (fun _ hk => hk.2) (.slice A2_0 l2_0.length c2_0)) (fun _ hk => hk.2) (.slice A2_1 l2_1.length c2_1)) (fun _ hk => ⟨hk.1.1.1.1.1, ⟨hk.1.1.1.2, hk.1.2⟩⟩))⟩, ⟨Kd.V_ext (Kd.V_mono (Kd.V_far (p := ⟨gb13006, 1, none⟩) (Kd.V_far (p := ⟨gb13006, 0, none⟩) (Kd.V_mono HO2_0.out (fun k_ hk => (⟨hk, hk.2⟩ : _ ∧ k_ ≠ gb13006))) (fun _ hk => hk.2) (.slice A2_0 l2_0.length c2_0)) (fun _ hk => hk.2) (.slice A2_1 l2_1.length c2_1)) (fun _ hk => ⟨hk.1.1.1.1.1, ⟨hk.1.1.1.2, hk.1.2⟩⟩))⟩, ⟨Kd.V_ext (Kd.V_mono (Kd.V_far (p := ⟨gb13006, 1, none⟩) (Kd.V_far (p := ⟨gb13006, 0, none⟩) (Kd.V_mono HO2_1.out (fun k_ hk => (⟨hk, hk.2⟩ : _ ∧ k_ ≠ gb13006))) (fun _ hk => hk.2) (.slice A2_0 l2_0.length c2_0)) (fun _ hk => hk.2) (.slice A2_1 l2_1.length c2_1)) (fun _ hk => ⟨hk.1.1.1.1.1, ⟨hk.1.1.1.2, hk.1.2⟩⟩))⟩, ⟨by (with_reducible repeat (first | refine blk_drewN ?_ _ | refine blk_drew ?_ | refine blk_alloc ?_ _)); refine blk_far ?_ NB13002_13006.out _; (with_reducible repeat (first | refine blk_drewN ?_ _ | refine blk_drew ?_ | refine blk_alloc ?_ _)); refine blk_far ?_ NB13002_13006.out _; exact blk_ext BK13002.out⟩, ⟨by (with_reducible repeat (first | refine blk_drewN ?_ _ | refine blk_drew ?_ | refine blk_alloc ?_ _)); refine blk_put (cs := #[.slice A2_0 l2_0.length c2_0, .slice none 0 0]) ?_ 1 _ rfl; (with_reducible repeat (first | refine blk_drewN ?_ _ | refine blk_drew ?_ | refine blk_alloc ?_ _)); refine blk_put (cs := #[.slice none 0 0, .slice none 0 0]) ?_ 0 _ rfl; exact blk_ext BK13006.out⟩, ⟨below_extB HB.out⟩⟩
    · replace c17 := Bool.eq_false_iff.mpr c17
      subst c17
      have H1 : (customslaw34_JournalOpen.l0 k t13003 l1 0 a3_0 l3_1 ([] : List Int) ([] : List Int)) = some r := by rw [if_neg (show ¬ (false = true) by decide)] at H; exact H
      clear H
      have H := H1
      clear H1
      have H' := Aside0.mk H
      clear H
      have hnb18 := NB13006_13001.out
      have hnc18 := NB13001_13006.out
      have hnb19 := NB13006_13002.out
      have hnc19 := NB13002_13006.out
      have hcz20_0 : w13.cell? ⟨gb13006, 0, none⟩ = some (.slice none 0 0) := (blk_cell BK13006.out 0).trans rfl
      have hcz20_1 : w13.cell? ⟨gb13006, 1, none⟩ = some (.slice none 0 0) := (blk_cell BK13006.out 1).trans rfl
      have hfz20_0 := blk_frozen BK13006.out 0
      have hfz20_1 := blk_frozen BK13006.out 1
      go_wp2
      go_loopg [12] k (fun kq v12 w' => ∃ (x12_1 : Int) (x13007000_1 : List Int) (x13007001_1 : List Int) (u13007000 : Value) (u13007001 : Value), v12 = .int .i64 x12_1 ∧ Aside0 (customslaw34_JournalOpen.l0 kq t13003 l1 x12_1 a3_0 l3_1 x13007000_1 x13007001_1 = some r) ∧ Aside0 (kq ≤ k) ∧ Aside0 (Kd.N (Kd.slice 5 (Kd.int .u8)) 22 w' w.heap.size (fun k_ => ((P0_ k_ ∨ P2_0_ k_ ∨ P2_1_ k_ ∨ P3_1_ k_) ∨ w.heap.size ≤ k_) ∧ some k_ ≠ (u13007001 : Value).ownBlock ∧ k_ ≠ gb13001 ∧ k_ ≠ gb13002 ∧ k_ ≠ gb13006) v13004 t13003) ∧ Aside0 (Kd.V (Kd.int .u8) 5 w' w.heap.size (fun k_ => ((P0_ k_ ∨ P2_0_ k_ ∨ P2_1_ k_ ∨ P3_1_ k_) ∨ w.heap.size ≤ k_) ∧ some k_ ≠ (v13004 : Value).ownBlock ∧ some k_ ≠ (u13007001 : Value).ownBlock ∧ k_ ≠ gb13001 ∧ k_ ≠ gb13002 ∧ k_ ≠ gb13006) (.slice A2_0 l2_0.length c2_0) l2_0) ∧ Aside0 (Kd.V (Kd.int .u8) 5 w' w.heap.size (fun k_ => ((P0_ k_ ∨ P2_0_ k_ ∨ P2_1_ k_ ∨ P3_1_ k_) ∨ w.heap.size ≤ k_) ∧ some k_ ≠ (v13004 : Value).ownBlock ∧ some k_ ≠ (u13007001 : Value).ownBlock ∧ k_ ≠ gb13001 ∧ k_ ≠ gb13002 ∧ k_ ≠ gb13006) (.slice A2_1 l2_1.length c2_1) l2_1) ∧ Aside0 (Kd.V (Kd.int .u8) 5 w' w.heap.size (fun k_ => ((P0_ k_ ∨ P2_0_ k_ ∨ P2_1_ k_ ∨ P3_1_ k_) ∨ w.heap.size ≤ k_) ∧ some k_ ≠ (v13004 : Value).ownBlock ∧ some k_ ≠ (u13007001 : Value).ownBlock ∧ k_ ≠ gb13001 ∧ k_ ≠ gb13002 ∧ k_ ≠ gb13006) (.slice A3_1 l3_1.length c3_1) l3_1) ∧ Aside0 (Kd.V (Kd.int .u8) 5 w' w.heap.size (fun k_ => ((P0_ k_ ∨ P2_0_ k_ ∨ P2_1_ k_ ∨ P3_1_ k_) ∨ w.heap.size ≤ k_) ∧ some k_ ≠ (v13004 : Value).ownBlock ∧ some k_ ≠ (u13007001 : Value).ownBlock ∧ k_ ≠ gb13001 ∧ k_ ≠ gb13002 ∧ k_ ≠ gb13006) u13007000 x13007000_1) ∧ Aside0 (Kd.R (Kd.int .u8) 5 w' w.heap.size (fun k_ => (w.heap.size ≤ k_)) u13007001 x13007001_1) ∧ Aside0 (w'.heap[gb13001]? = some (.cells #[(.slice A2_0 l2_0.length c2_0), (.slice A2_1 l2_1.length c2_1)] 24 (0, 0))) ∧ Aside0 (w'.heap[gb13002]? = some (.cells #[.int .i64 a3_0, (.slice A3_1 l3_1.length c3_1)] 57 (0, 0))) ∧ Aside0 (w'.heap[gb13006]? = some (.cells #[u13007000, u13007001] 24 (0, 0))) ∧ Aside0 (Below w.heap.size w w'))
      case atStart => exact ⟨(0), (([] : List Int)), (([] : List Int)), (.slice none 0 0), (.slice none 0 0), (by first | rfl | (simp; done) | (simp [*]; done)), H', ⟨Nat.le_refl _⟩, ⟨Kd.N_ext (Kd.N_mono (Kd.N_far (p := ⟨gb13006, 1, none⟩) (Kd.N_far (p := ⟨gb13006, 0, none⟩) (Kd.N_far (p := ⟨gb13006, 1, none⟩) (Kd.N_far (p := ⟨gb13006, 0, none⟩) (Kd.N_mono HO13005.out (fun k_ hk => (⟨hk, hk.2⟩ : _ ∧ k_ ≠ gb13006))) (fun _ hk => hk.2) (.slice A2_0 l2_0.length c2_0)) (fun _ hk => hk.2) (.slice A2_1 l2_1.length c2_1)) (fun _ hk => hk.2) (.slice none 0 0)) (fun _ hk => hk.2) (.slice none 0 0)) (fun _ hk => ⟨hk.1.1.1, ⟨(by simp [Value.ownBlock]), ⟨hk.1.1.2.1, ⟨hk.1.1.2.2, hk.1.2⟩⟩⟩⟩))⟩, ⟨Kd.V_ext (Kd.V_mono (Kd.V_far (p := ⟨gb13006, 1, none⟩) (Kd.V_far (p := ⟨gb13006, 0, none⟩) (Kd.V_far (p := ⟨gb13006, 1, none⟩) (Kd.V_far (p := ⟨gb13006, 0, none⟩) (Kd.V_mono HO2_0.out (fun k_ hk => (⟨hk, hk.2⟩ : _ ∧ k_ ≠ gb13006))) (fun _ hk => hk.2) (.slice A2_0 l2_0.length c2_0)) (fun _ hk => hk.2) (.slice A2_1 l2_1.length c2_1)) (fun _ hk => hk.2) (.slice none 0 0)) (fun _ hk => hk.2) (.slice none 0 0)) (fun _ hk => ⟨hk.1.1.1.1.1, ⟨hk.1.1.2, ⟨(by simp [Value.ownBlock]), ⟨hk.1.1.1.1.2, ⟨hk.1.1.1.2, hk.1.2⟩⟩⟩⟩⟩))⟩, ⟨Kd.V_ext (Kd.V_mono (Kd.V_far (p := ⟨gb13006, 1, none⟩) (Kd.V_far (p := ⟨gb13006, 0, none⟩) (Kd.V_far (p := ⟨gb13006, 1, none⟩) (Kd.V_far (p := ⟨gb13006, 0, none⟩) (Kd.V_mono HO2_1.out (fun k_ hk => (⟨hk, hk.2⟩ : _ ∧ k_ ≠ gb13006))) (fun _ hk => hk.2) (.slice A2_0 l2_0.length c2_0)) (fun _ hk => hk.2) (.slice A2_1 l2_1.length c2_1)) (fun _ hk => hk.2) (.slice none 0 0)) (fun _ hk => hk.2) (.slice none 0 0)) (fun _ hk => ⟨hk.1.1.1.1.1, ⟨hk.1.1.2, ⟨(by simp [Value.ownBlock]), ⟨hk.1.1.1.1.2, ⟨hk.1.1.1.2, hk.1.2⟩⟩⟩⟩⟩))⟩, ⟨Kd.V_ext (Kd.V_mono (Kd.V_far (p := ⟨gb13006, 1, none⟩) (Kd.V_far (p := ⟨gb13006, 0, none⟩) (Kd.V_far (p := ⟨gb13006, 1, none⟩) (Kd.V_far (p := ⟨gb13006, 0, none⟩) (Kd.V_mono HO3_1.out (fun k_ hk => (⟨hk, hk.2⟩ : _ ∧ k_ ≠ gb13006))) (fun _ hk => hk.2) (.slice A2_0 l2_0.length c2_0)) (fun _ hk => hk.2) (.slice A2_1 l2_1.length c2_1)) (fun _ hk => hk.2) (.slice none 0 0)) (fun _ hk => hk.2) (.slice none 0 0)) (fun _ hk => ⟨hk.1.1.1.1.1, ⟨hk.1.1.2, ⟨(by simp [Value.ownBlock]), ⟨hk.1.1.1.1.2, ⟨hk.1.1.1.2, hk.1.2⟩⟩⟩⟩⟩))⟩, ⟨Kd.V_nil _ _ _ _ _⟩, ⟨by first | exact Kd.R_nil _ _ _ _ _ | exact Kd.N_nil _ _ _ _ _ | exact Kd.V_nil _ _ _ _ _ | exact Kd.Q_nil _ _ _ _ _ | exact Kd.S_nil _ _ _ _ _⟩, ⟨by (with_reducible repeat (first | refine blk_drewN ?_ _ | refine blk_drew ?_ | refine blk_alloc ?_ _)); refine blk_far ?_ NB13001_13006.out _; (with_reducible repeat (first | refine blk_drewN ?_ _ | refine blk_drew ?_ | refine blk_alloc ?_ _)); refine blk_far ?_ NB13001_13006.out _; (with_reducible repeat (first | refine blk_drewN ?_ _ | refine blk_drew ?_ | refine blk_alloc ?_ _)); refine blk_far ?_ NB13001_13006.out _; (with_reducible repeat (first | refine blk_drewN ?_ _ | refine blk_drew ?_ | refine blk_alloc ?_ _)); refine blk_far ?_ NB13001_13006.out _; exact blk_ext BK13001.out⟩, ⟨by (with_reducible repeat (first | refine blk_drewN ?_ _ | refine blk_drew ?_ | refine blk_alloc ?_ _)); refine blk_far ?_ NB13002_13006.out _; (with_reducible repeat (first | refine blk_drewN ?_ _ | refine blk_drew ?_ | refine blk_alloc ?_ _)); refine blk_far ?_ NB13002_13006.out _; (with_reducible repeat (first | refine blk_drewN ?_ _ | refine blk_drew ?_ | refine blk_alloc ?_ _)); refine blk_far ?_ NB13002_13006.out _; (with_reducible repeat (first | refine blk_drewN ?_ _ | refine blk_drew ?_ | refine blk_alloc ?_ _)); refine blk_far ?_ NB13002_13006.out _; exact blk_ext BK13002.out⟩, ⟨by (with_reducible repeat (first | refine blk_drewN ?_ _ | refine blk_drew ?_ | refine blk_alloc ?_ _)); refine blk_put (cs := #[.slice none 0 0, .slice A2_1 l2_1.length c2_1]) ?_ 1 _ rfl; (with_reducible repeat (first | refine blk_drewN ?_ _ | refine blk_drew ?_ | refine blk_alloc ?_ _)); refine blk_put (cs := #[.slice A2_0 l2_0.length c2_0, .slice A2_1 l2_1.length c2_1]) ?_ 0 _ rfl; (with_reducible repeat (first | refine blk_drewN ?_ _ | refine blk_drew ?_ | refine blk_alloc ?_ _)); refine blk_put (cs := #[.slice A2_0 l2_0.length c2_0, .slice none 0 0]) ?_ 1 _ rfl; (with_reducible repeat (first | refine blk_drewN ?_ _ | refine blk_drew ?_ | refine blk_alloc ?_ _)); refine blk_put (cs := #[.slice none 0 0, .slice none 0 0]) ?_ 0 _ rfl; exact blk_ext BK13006.out⟩, ⟨below_extB HB.out⟩⟩
      case round =>
        clear H'
        try clear c1
        try clear c2
        try clear p2
        try clear c3
        try clear c5
        try clear c11
        try clear c13
        try clear c14
        try clear c15
        try clear c17
        try clear c18
        try clear c19
        try clear hcz12_0
        try clear hcz12_1
        try clear hcz16_0
        try clear hcz16_1
        try clear hcz20_0
        try clear hcz20_1
        try clear hfz12_0
        try clear hfz12_1
        try clear hfz16_0
        try clear hfz16_1
        try clear hfz20_0
        try clear hfz20_1
        obtain ⟨x12_1, x13007000_1, x13007001_1, u13007000, u13007001, rfl, HA, HK1, HO_0, HO_13002000, HO_13002001, HO_13003001, HO_13007000, HO_13007001, BK13001, BK13002, BK13006, HB⟩ := hrel
        cases gk with
        | zero => exact absurd HA.out (by simp [customslaw34_JournalOpen.l0])
        | succ k1 =>
          have H := HA.out
          clear HA
          simp only [customslaw34_JournalOpen.l0] at H
          by_cases c21 : x12_1 < (t13003.length : Int)
          · rw [if_pos c21] at H
            have c21b0 : decide (x12_1 < (t13003.length : Int)) = true := decide_eq_true c21
            clear c21
            (first | rw [c21b0] | (simp only [i64_w, i32_w]; rw [c21b0]) | skip)
            have HC22 := Aside0.mk H
            clear H
            obtain ⟨Ao23, co23, eo23⟩ := Kd.N_slice HO_0.out
            subst eo23
            go_upto_region 9 with (fail)
            go_cut [51] (fun v51 wc => ∃ (kq : Nat) (x51_21 : Bool), v51 = .bool x51_21 ∧ Aside0 (customslaw34_JournalOpen.j1 kq t13003 l1 x12_1 1 x51_21 a3_0 l3_1 x13007000_1 x13007001_1 = some r) ∧ Aside0 (kq ≤ k1) ∧ Aside0 (Kd.N (Kd.slice 5 (Kd.int .u8)) 22 wc w.heap.size (fun k_ => ((P0_ k_ ∨ P2_0_ k_ ∨ P2_1_ k_ ∨ P3_1_ k_) ∨ w.heap.size ≤ k_) ∧ some k_ ≠ (u13007001 : Value).ownBlock ∧ k_ ≠ gb13001 ∧ k_ ≠ gb13002 ∧ k_ ≠ gb13006) (.slice Ao23 t13003.length co23) t13003) ∧ Aside0 (Kd.V (Kd.int .u8) 5 wc w.heap.size (fun k_ => ((P0_ k_ ∨ P2_0_ k_ ∨ P2_1_ k_ ∨ P3_1_ k_) ∨ w.heap.size ≤ k_) ∧ some k_ ≠ ((.slice Ao23 t13003.length co23) : Value).ownBlock ∧ some k_ ≠ (u13007001 : Value).ownBlock ∧ k_ ≠ gb13001 ∧ k_ ≠ gb13002 ∧ k_ ≠ gb13006) (.slice A2_0 l2_0.length c2_0) l2_0) ∧ Aside0 (Kd.V (Kd.int .u8) 5 wc w.heap.size (fun k_ => ((P0_ k_ ∨ P2_0_ k_ ∨ P2_1_ k_ ∨ P3_1_ k_) ∨ w.heap.size ≤ k_) ∧ some k_ ≠ ((.slice Ao23 t13003.length co23) : Value).ownBlock ∧ some k_ ≠ (u13007001 : Value).ownBlock ∧ k_ ≠ gb13001 ∧ k_ ≠ gb13002 ∧ k_ ≠ gb13006) (.slice A2_1 l2_1.length c2_1) l2_1) ∧ Aside0 (Kd.V (Kd.int .u8) 5 wc w.heap.size (fun k_ => ((P0_ k_ ∨ P2_0_ k_ ∨ P2_1_ k_ ∨ P3_1_ k_) ∨ w.heap.size ≤ k_) ∧ some k_ ≠ ((.slice Ao23 t13003.length co23) : Value).ownBlock ∧ some k_ ≠ (u13007001 : Value).ownBlock ∧ k_ ≠ gb13001 ∧ k_ ≠ gb13002 ∧ k_ ≠ gb13006) (.slice A3_1 l3_1.length c3_1) l3_1) ∧ Aside0 (Kd.V (Kd.int .u8) 5 wc w.heap.size (fun k_ => ((P0_ k_ ∨ P2_0_ k_ ∨ P2_1_ k_ ∨ P3_1_ k_) ∨ w.heap.size ≤ k_) ∧ some k_ ≠ ((.slice Ao23 t13003.length co23) : Value).ownBlock ∧ some k_ ≠ (u13007001 : Value).ownBlock ∧ k_ ≠ gb13001 ∧ k_ ≠ gb13002 ∧ k_ ≠ gb13006) u13007000 x13007000_1) ∧ Aside0 (Kd.R (Kd.int .u8) 5 wc w.heap.size (fun k_ => (w.heap.size ≤ k_)) u13007001 x13007001_1) ∧ Aside0 (wc.heap[gb13001]? = some (.cells #[(.slice A2_0 l2_0.length c2_0), (.slice A2_1 l2_1.length c2_1)] 24 (0, 0))) ∧ Aside0 (wc.heap[gb13002]? = some (.cells #[.int .i64 a3_0, (.slice A3_1 l3_1.length c3_1)] 57 (0, 0))) ∧ Aside0 (wc.heap[gb13006]? = some (.cells #[u13007000, u13007001] 24 (0, 0))) ∧ Aside0 (Below w.heap.size w wc))
            case first =>
              have H := HC22.out
              clear HC22
              by_cases c24 : x12_1 < (l1.length : Int)
              · rw [if_pos c24] at H
                have c24b0 : decide (x12_1 < (l1.length : Int)) = true := decide_eq_true c24
                clear c24
                (first | rw [c24b0] | (simp only [i64_w, i32_w]; rw [c24b0]) | skip)
                replace H := if_some H; obtain ⟨c25, H⟩ := H
                have c25b0 : decide (0 ≤ x12_1) = true := decide_eq_true c25
                clear c25
                have H' := Aside0.mk H
                clear H
                have p13007 : 0 ≤ (x12_1 : Int) := of_decide_eq_true (by first | (with_reducible assumption) | assumption)
                have q13007 : x12_1 < (l1.length : Int) := of_decide_eq_true (by first | (with_reducible assumption) | assumption)
                obtain ⟨ad13007, e13007, hx13007_0⟩ := Kd.at_bool HR1.out x12_1 p13007 q13007
                cases e13007
                replace hx13007_0 := (HB.out.cell (World.block_lt_of_cell? w _ hx13007_0)).trans hx13007_0
                replace p13007 := eq_true p13007
                replace q13007 := eq_true q13007
                go_wp2
                go_meet
                case rel => exact ⟨_, (rdOf false l1 x12_1), (by first | rfl | (simp; done) | (simp [*]; done)), H', ⟨by have := HK1.out; first | omega | exact Nat.le_refl _⟩, ⟨Kd.N_ext HO_0.out⟩, ⟨Kd.V_ext HO_13002000.out⟩, ⟨Kd.V_ext HO_13002001.out⟩, ⟨Kd.V_ext HO_13003001.out⟩, ⟨Kd.V_ext HO_13007000.out⟩, ⟨Kd.R_ext HO_13007001.out⟩, ⟨blk_ext BK13001.out⟩, ⟨blk_ext BK13002.out⟩, ⟨blk_ext BK13006.out⟩, ⟨below_extB HB.out⟩⟩
              · rw [if_neg c24] at H
                have c24b0 : decide (x12_1 < (l1.length : Int)) = false := decide_eq_false c24
                clear c24
                (first | rw [c24b0] | (simp only [i64_w, i32_w]; rw [c24b0]) | skip)
                have H' := Aside0.mk H
                clear H
                go_wp2
                go_meet
                case rel => exact ⟨_, (false), (by first | rfl | (simp; done) | (simp [*]; done)), H', ⟨by have := HK1.out; first | omega | exact Nat.le_refl _⟩, ⟨Kd.N_ext HO_0.out⟩, ⟨Kd.V_ext HO_13002000.out⟩, ⟨Kd.V_ext HO_13002001.out⟩, ⟨Kd.V_ext HO_13003001.out⟩, ⟨Kd.V_ext HO_13007000.out⟩, ⟨Kd.R_ext HO_13007001.out⟩, ⟨blk_ext BK13001.out⟩, ⟨blk_ext BK13002.out⟩, ⟨blk_ext BK13006.out⟩, ⟨below_extB HB.out⟩⟩
            case rest =>
              clear HC22
              try clear c1
              try clear p1
              try clear q1
              try clear hx1
              try clear c2
              try clear p2
              try clear c3
              try clear c5
              try clear c11
              try clear c13
              try clear p13
              try clear q13
              try clear hx13
              try clear c14
              try clear c15
              try clear c17
              try clear c18
              try clear c19
              try clear c21
              try clear c21b0
              try clear c24
              try clear c24b0
              try clear c25
              try clear c25b0
              try clear hcz12_0
              try clear hcz12_1
              try clear hcz16_0
              try clear hcz16_1
              try clear hcz20_0
              try clear hcz20_1
              try clear hfz12_0
              try clear hfz12_1
              try clear hfz16_0
              try clear hfz16_1
              try clear hfz20_0
              try clear hfz20_1
              try clear hx13007_0
              try clear p13007
              try clear p2
              try clear q13007
              obtain ⟨kq, x51_21, rfl, HA, HJ21, HO_0, HO_13002000, HO_13002001, HO_13003001, HO_13007000, HO_13007001, BK13001, BK13002, BK13006, HB⟩ := hcut
              cases kq with
              | zero => exact absurd HA.out (by simp [customslaw34_JournalOpen.j1])
              | succ kj21 =>
                have H := HA.out
                clear HA
                simp only [customslaw34_JournalOpen.j1] at H
                have HC26 := Aside0.mk H
                clear H
                go_upto_if 51 with (fail)
                go_cut [13] (fun v13 wc => ∃ (kq : Nat) (x13_25 : Int), v13 = .int .i64 x13_25 ∧ Aside0 (customslaw34_JournalOpen.j2 kq t13003 l1 x12_1 x13_25 a3_0 l3_1 x13007000_1 x13007001_1 = some r) ∧ Aside0 (kq ≤ kj21) ∧ Aside0 (Kd.N (Kd.slice 5 (Kd.int .u8)) 22 wc w.heap.size (fun k_ => ((P0_ k_ ∨ P2_0_ k_ ∨ P2_1_ k_ ∨ P3_1_ k_) ∨ w.heap.size ≤ k_) ∧ some k_ ≠ (u13007001 : Value).ownBlock ∧ k_ ≠ gb13001 ∧ k_ ≠ gb13002 ∧ k_ ≠ gb13006) (.slice Ao23 t13003.length co23) t13003) ∧ Aside0 (Kd.V (Kd.int .u8) 5 wc w.heap.size (fun k_ => ((P0_ k_ ∨ P2_0_ k_ ∨ P2_1_ k_ ∨ P3_1_ k_) ∨ w.heap.size ≤ k_) ∧ some k_ ≠ ((.slice Ao23 t13003.length co23) : Value).ownBlock ∧ some k_ ≠ (u13007001 : Value).ownBlock ∧ k_ ≠ gb13001 ∧ k_ ≠ gb13002 ∧ k_ ≠ gb13006) (.slice A2_0 l2_0.length c2_0) l2_0) ∧ Aside0 (Kd.V (Kd.int .u8) 5 wc w.heap.size (fun k_ => ((P0_ k_ ∨ P2_0_ k_ ∨ P2_1_ k_ ∨ P3_1_ k_) ∨ w.heap.size ≤ k_) ∧ some k_ ≠ ((.slice Ao23 t13003.length co23) : Value).ownBlock ∧ some k_ ≠ (u13007001 : Value).ownBlock ∧ k_ ≠ gb13001 ∧ k_ ≠ gb13002 ∧ k_ ≠ gb13006) (.slice A2_1 l2_1.length c2_1) l2_1) ∧ Aside0 (Kd.V (Kd.int .u8) 5 wc w.heap.size (fun k_ => ((P0_ k_ ∨ P2_0_ k_ ∨ P2_1_ k_ ∨ P3_1_ k_) ∨ w.heap.size ≤ k_) ∧ some k_ ≠ ((.slice Ao23 t13003.length co23) : Value).ownBlock ∧ some k_ ≠ (u13007001 : Value).ownBlock ∧ k_ ≠ gb13001 ∧ k_ ≠ gb13002 ∧ k_ ≠ gb13006) (.slice A3_1 l3_1.length c3_1) l3_1) ∧ Aside0 (Kd.V (Kd.int .u8) 5 wc w.heap.size (fun k_ => ((P0_ k_ ∨ P2_0_ k_ ∨ P2_1_ k_ ∨ P3_1_ k_) ∨ w.heap.size ≤ k_) ∧ some k_ ≠ ((.slice Ao23 t13003.length co23) : Value).ownBlock ∧ some k_ ≠ (u13007001 : Value).ownBlock ∧ k_ ≠ gb13001 ∧ k_ ≠ gb13002 ∧ k_ ≠ gb13006) u13007000 x13007000_1) ∧ Aside0 (Kd.R (Kd.int .u8) 5 wc w.heap.size (fun k_ => (w.heap.size ≤ k_)) u13007001 x13007001_1) ∧ Aside0 (wc.heap[gb13001]? = some (.cells #[(.slice A2_0 l2_0.length c2_0), (.slice A2_1 l2_1.length c2_1)] 24 (0, 0))) ∧ Aside0 (wc.heap[gb13002]? = some (.cells #[.int .i64 a3_0, (.slice A3_1 l3_1.length c3_1)] 57 (0, 0))) ∧ Aside0 (wc.heap[gb13006]? = some (.cells #[u13007000, u13007001] 24 (0, 0))) ∧ Aside0 (Below w.heap.size w wc))
                case first =>
                  have H := HC26.out
                  clear HC26
                  by_cases c27 : x51_21 = true
                  · subst c27
                    have H1 : (customslaw34_JournalOpen.j2 kj21 t13003 l1 x12_1 2 a3_0 l3_1 x13007000_1 x13007001_1) = some r := by rw [if_pos rfl] at H; exact H
                    clear H
                    have H := H1
                    clear H1
                    have H' := Aside0.mk H
                    clear H
                    go_wp2
                    go_meet
                    case rel => exact ⟨_, (2), (by first | rfl | (simp; done) | (simp [*]; done)), H', ⟨by have := HK1.out; have := HJ21.out; first | omega | exact Nat.le_refl _⟩, ⟨Kd.N_ext HO_0.out⟩, ⟨Kd.V_ext HO_13002000.out⟩, ⟨Kd.V_ext HO_13002001.out⟩, ⟨Kd.V_ext HO_13003001.out⟩, ⟨Kd.V_ext HO_13007000.out⟩, ⟨Kd.R_ext HO_13007001.out⟩, ⟨blk_ext BK13001.out⟩, ⟨blk_ext BK13002.out⟩, ⟨blk_ext BK13006.out⟩, ⟨below_extB HB.out⟩⟩
                  · replace c27 := Bool.eq_false_iff.mpr c27
                    subst c27
                    have H1 : (customslaw34_JournalOpen.j2 kj21 t13003 l1 x12_1 1 a3_0 l3_1 x13007000_1 x13007001_1) = some r := by rw [if_neg (show ¬ (false = true) by decide)] at H; exact H
                    clear H
                    have H := H1
                    clear H1
                    have H' := Aside0.mk H
                    clear H
                    go_wp2
                    go_meet
                    case rel => exact ⟨_, (1), (by first | rfl | (simp; done) | (simp [*]; done)), H', ⟨by have := HK1.out; have := HJ21.out; first | omega | exact Nat.le_refl _⟩, ⟨Kd.N_ext HO_0.out⟩, ⟨Kd.V_ext HO_13002000.out⟩, ⟨Kd.V_ext HO_13002001.out⟩, ⟨Kd.V_ext HO_13003001.out⟩, ⟨Kd.V_ext HO_13007000.out⟩, ⟨Kd.R_ext HO_13007001.out⟩, ⟨blk_ext BK13001.out⟩, ⟨blk_ext BK13002.out⟩, ⟨blk_ext BK13006.out⟩, ⟨below_extB HB.out⟩⟩
                case rest =>
                  clear HC26
                  try clear c1
                  try clear p1
                  try clear q1
                  try clear hx1
                  try clear c2
                  try clear p2
                  try clear c3
                  try clear c5
                  try clear c11
                  try clear c13
                  try clear p13
                  try clear q13
                  try clear hx13
                  try clear c14
                  try clear c15
                  try clear c17
                  try clear c18
                  try clear c19
                  try clear c21
                  try clear c21b0
                  try clear c24
                  try clear c24b0
                  try clear c25
                  try clear c25b0
                  try clear c27
                  try clear hcz12_0
                  try clear hcz12_1
                  try clear hcz16_0
                  try clear hcz16_1
                  try clear hcz20_0
                  try clear hcz20_1
                  try clear hfz12_0
                  try clear hfz12_1
                  try clear hfz16_0
                  try clear hfz16_1
                  try clear hfz20_0
                  try clear hfz20_1
                  try clear hx13007_0
                  try clear p1
                  try clear p13
                  try clear p13007
                  try clear p2
                  try clear q1
                  try clear q13
                  try clear q13007
                  obtain ⟨kq, x13_25, rfl, HA, HJ25, HO_0, HO_13002000, HO_13002001, HO_13003001, HO_13007000, HO_13007001, BK13001, BK13002, BK13006, HB⟩ := hcut
                  cases kq with
                  | zero => exact absurd HA.out (by simp [customslaw34_JournalOpen.j2])
                  | succ kj25 =>
                    have H := HA.out
                    clear HA
                    simp only [customslaw34_JournalOpen.j2] at H
                    replace H := if_some H; obtain ⟨c28, H⟩ := H
                    have c28b0 : decide (0 ≤ x12_1) = true := decide_eq_true c28
                    clear c28
                    replace H := if_some H; obtain ⟨c29, H⟩ := H
                    have c29b0 : decide (x12_1 < (t13003.length : Int)) = true := decide_eq_true c29
                    clear c29
                    replace H := Option.bind_eq_some_iff.mp H
                    obtain ⟨⟨t13009, t13012, t13015⟩, A300, H⟩ := H
                    try dsimp only at H
                    have A30 := Aside0.mk A300
                    clear A300
                    by_cases c31 : (Int.tmod x12_1 3) = 1
                    · rw [if_pos c31] at H
                      have c31b0 : ((Int.tmod x12_1 3) == 1) = true := beq_iff_eq.mpr c31
                      have c31b1 : ((Int.tmod x12_1 3) != 1) = false := bne_eq_false_iff_eq.mpr c31
                      clear c31
                      replace H := Option.bind_eq_some_iff.mp H
                      obtain ⟨⟨t13016, t13019⟩, A320, H⟩ := H
                      try dsimp only at H
                      have A32 := Aside0.mk A320
                      clear A320
                      have H' := Aside0.mk H
                      clear H
                      try go_wp2
                      have n0_ := Aside0.mk (Kd.N_drew HO_0.out)
                      have n1_ := Aside0.mk (Kd.V_drew HO_13002000.out)
                      have n2_ := Aside0.mk (Kd.V_drew HO_13002001.out)
                      have n3_ := Aside0.mk (Kd.V_drew HO_13003001.out)
                      have n4_ := Aside0.mk (Kd.V_drew HO_13007000.out)
                      have n5_ := Aside0.mk (Kd.R_drew HO_13007001.out)
                      have n6_ := Aside0.mk (blk_drew BK13001.out)
                      have n7_ := Aside0.mk (blk_drew BK13002.out)
                      have n8_ := Aside0.mk (blk_drew BK13006.out)
                      have n9_ := Aside0.mk (below_drew1 HB.out)
                      clear HO_0
                      clear HO_13002000
                      clear HO_13002001
                      clear HO_13003001
                      clear HO_13007000
                      clear HO_13007001
                      clear BK13001
                      clear BK13002
                      clear BK13006
                      clear HB
                      have HO_0 := n0_
                      have HO_13002000 := n1_
                      have HO_13002001 := n2_
                      have HO_13003001 := n3_
                      have HO_13007000 := n4_
                      have HO_13007001 := n5_
                      have BK13001 := n6_
                      have BK13002 := n7_
                      have BK13006 := n8_
                      have HB := n9_
                      clear n0_ n1_ n2_ n3_ n4_ n5_ n6_ n7_ n8_ n9_
                      have p13008 : 0 ≤ (x12_1 : Int) := of_decide_eq_true (by first | (with_reducible assumption) | assumption)
                      have q13008 : x12_1 < (t13003.length : Int) := of_decide_eq_true (by first | (with_reducible assumption) | assumption)
                      obtain ⟨ad13008, A13008_0, c13008_0, e13008, hx13008_0, hl13008_0, hi13008_0⟩ := at_L1 (Kd.N_reads' HO_0.out).2.2 x12_1 p13008 q13008
                      cases e13008
                      obtain ⟨ce13008, hce13008, hMe13008, hcc13008⟩ := Kd.N_get HO_0.out [] x12_1 p13008 (by first | exact q13008 | exact of_decide_eq_true (by first | (with_reducible assumption) | assumption) | (have e_ := (Kd.N_reads' HO_0.out).1; omega))
                      obtain ⟨ua13008_0, uc13008_0, rfl, ul13008_0, ge13008_0⟩ := Kd.FK_slice_open hMe13008
                      have hv13008_0 := hcc13008 0 _ rfl
                      rw [Nat.add_zero, show ((Kd.slice 5 (Kd.int .u8))).sz = 1 from rfl, Nat.mul_one] at hv13008_0
                      replace hv13008_0 := Option.some.inj (hv13008_0.symm.trans hx13008_0)
                      injection hv13008_0 with hva_ hvn_ hvc_
                      rw [hva_] at ge13008_0
                      rw [hvc_] at ul13008_0
                      have HL13008_0 := Aside0.mk (show Kd.V (Kd.int .u8) 5 _ w.heap.size _ _ (rd_L1 t13003 x12_1) from Kd.V_mk ul13008_0 ge13008_0)
                      clear hva_ hvn_ hvc_ ge13008_0 ul13008_0
                      clear hcc13008 hce13008
                      have HR13008_0 := Aside0.mk hi13008_0
                      have HC13008_0 := Aside0.mk hl13008_0
                      clear hi13008_0 hl13008_0
                      replace p13008 := eq_true p13008
                      replace q13008 := eq_true q13008
                      obtain ⟨Ao34, co34, eo34⟩ := Kd.V_slice HO_13007000.out
                      (first | subst eo34 | (injection eo34 with f1_ f2_ f3_; have f4_ := f1_.symm; have f5_ := f3_.symm; clear f1_ f2_ f3_; subst f4_; subst f5_))
                      obtain ⟨Ao35, co35, eo35⟩ := Kd.R_slice HO_13007001.out
                      (first | subst eo35 | (injection eo35 with f1_ f2_ f3_; have f4_ := f1_.symm; have f5_ := f3_.symm; clear f1_ f2_ f3_; subst f4_; subst f5_))
                      refine start_ (n := 12) (S := fun w' => w'.cell? ⟨gb13006, 0, none⟩ = some (.slice Ao34 x13007000_1.length co34) ∧ w'.cell? ⟨gb13006, 1, none⟩ = some (.slice Ao35 x13007001_1.length co35) ∧ w'.cell? (ad13008.add (x12_1).toNat) = some (.slice A13008_0 (rd_L1 t13003 x12_1).length c13008_0)) (ds := [11]) #[false, false, false, false, false, false, false, false, false, false, false, false] (by kernel_rfl) rfl rfl ⟨(blk_cell BK13006.out 0).trans rfl, (blk_cell BK13006.out 1).trans rfl, hx13008_0⟩ (fun hHeld => ?_); refine with_tabW customslaw34_JournalOpen.tab11 customslaw34_JournalOpen.bits11 (fun HT_ HW_ => ?_)
                      generalize wc.drew = w33 at HO_0 HO_13002000 HO_13002001 HO_13003001 HO_13007000 HO_13007001 BK13001 BK13002 BK13006 HB HL13008_0 HR13008_0 hx13008_0 hHeld ⊢
                      refine pure_ (i := 1) (N := some 54) (v := ?_) (a' := ?_) #[false, true, false, false, false, false, false, false, false, false, false, false] rfl rfl (any_of HT_.out (by kernel_rfl)) (fun _ _ _ h => h) (Or.inl ⟨by rfl, ?_⟩) ?_ ?_
                      rotate_left
                      · intro w'
                        go_simp
                        with_reducible rfl
                      rotate_left
                      · simp only [Act.put, List.setIfInBounds_toArray, List.set_cons_zero, List.set_cons_succ, i64_w, i32_w]
                        rfl
                      refine pure_ (i := 2) (N := some 55) (v := ?_) (a' := ?_) #[false, true, true, false, false, false, false, false, false, false, false, false] rfl rfl (any_of HT_.out (by kernel_rfl)) (fun _ _ _ h => h) (Or.inl ⟨by rfl, ?_⟩) ?_ ?_
                      rotate_left
                      · intro w'
                        go_simp
                        with_reducible rfl
                      rotate_left
                      · simp only [Act.put, List.setIfInBounds_toArray, List.set_cons_zero, List.set_cons_succ, i64_w, i32_w]
                        rfl
                      refine pure_ (i := 3) (N := some 56) (v := ?_) (a' := ?_) #[false, true, true, true, false, false, false, false, false, false, false, false] rfl rfl (any_of HT_.out (by kernel_rfl)) (fun _ _ _ h => h) (Or.inl ⟨by rfl, ?_⟩) ?_ ?_
                      rotate_left
                      · intro w'
                        go_simp
                        with_reducible rfl
                      rotate_left
                      · simp only [Act.put, List.setIfInBounds_toArray, List.set_cons_zero, List.set_cons_succ, i64_w, i32_w]
                        rfl
                      refine pure_ (i := 4) (N := some 57) (v := ?_) (a' := ?_) #[false, true, true, true, true, false, false, false, false, false, false, false] rfl rfl (any_of HT_.out (by kernel_rfl)) (fun _ _ _ h => h) (Or.inl ⟨by rfl, ?_⟩) ?_ ?_
                      rotate_left
                      · intro w'
                        go_simp
                        with_reducible rfl
                      rotate_left
                      · simp only [Act.put, List.setIfInBounds_toArray, List.set_cons_zero, List.set_cons_succ, i64_w, i32_w]
                        rfl
                      refine take_ (i := 0) (N := some 53) (v := ?_) (a' := ?_) #[true, true, true, true, true, false, false, false, false, false, false, false] rfl rfl (take_ofW HT_.out HW_.out (by kernel_rfl)) (fun _ _ _ h => h) (Or.inl ⟨by rfl, ?_⟩) hHeld ?_ ?_
                      rotate_left
                      · rintro w' ⟨s0, s1, s2⟩
                        go_simp
                        with_reducible rfl
                      rotate_left
                      · simp only [Act.put, List.setIfInBounds_toArray, List.set_cons_zero, List.set_cons_succ, i64_w, i32_w]
                        rfl
                      refine take_ (i := 5) (N := some 58) (v := ?_) (a' := ?_) #[true, true, true, true, true, true, false, false, false, false, false, false] rfl rfl (take_ofW HT_.out HW_.out (by kernel_rfl)) (fun _ _ _ h => h) (Or.inl ⟨by rfl, ?_⟩) hHeld ?_ ?_
                      rotate_left
                      · rintro w' ⟨s0, s1, s2⟩
                        go_simp
                        with_reducible rfl
                      rotate_left
                      · simp only [Act.put, List.setIfInBounds_toArray, List.set_cons_zero, List.set_cons_succ, i64_w, i32_w]
                        rfl
                      refine pure_ (i := 6) (N := some 59) (v := ?_) (a' := ?_) #[true, true, true, true, true, true, true, false, false, false, false, false] rfl rfl (any_of HT_.out (by kernel_rfl)) (fun _ _ _ h => h) (Or.inl ⟨by rfl, ?_⟩) ?_ ?_
                      rotate_left
                      · intro w'
                        go_simp
                        with_reducible rfl
                      rotate_left
                      · simp only [Act.put, List.setIfInBounds_toArray, List.set_cons_zero, List.set_cons_succ, i64_w, i32_w]
                        rfl
                      refine one_ (i := 7) (N := some 60) #[true, true, true, true, true, true, true, true, false, false, false, false] rfl rfl (one_of HT_.out (by kernel_rfl)) (by decide) (fun K hK => ?_)
                      refine goes_ Try.func57 (by kernel_rfl) rfl #[.agg #[.slice Ao34 x13007000_1.length co34, .slice Ao35 x13007001_1.length co35], .agg #[.int .i64 x13_25, .slice A13008_0 (rd_L1 t13003 x12_1).length c13008_0]] (by rfl) rfl rfl (by (try simp only [List.map_toArray, List.map_cons, List.map_nil]); first | done | rfl | (simp only [List.length_drop, List.length_take]; rfl)) ?_
                      with_reducible refine (customsref33_Put.calls kj25 (fun k_ => (((P0_ k_ ∨ P2_0_ k_ ∨ P2_1_ k_ ∨ P3_1_ k_) ∨ w.heap.size ≤ k_) ∧ (some k_ ≠ (.slice (some ad13008) t13003.length co23 : Value).ownBlock ∧ (some k_ ≠ (.slice Ao35 x13007001_1.length co35 : Value).ownBlock ∧ (k_ ≠ gb13001 ∧ (k_ ≠ gb13002 ∧ k_ ≠ gb13006)))))) _ _ x13007000_1 _ _ x13007001_1 x13_25 _ _ (rd_L1 t13003 x12_1) t13009 t13012 t13015 _ ?side1 ?side2 ?side3 ?side4 ?side5 A30.out).mono ?_
                      (case side1 => exact HO_13007000.out)
                      (case side2 => exact Kd.C_ext (Kd.R_reads' HO_13007001.out).2.2)
                      (case side3 => exact (Kd.R_reads' HO_13007001.out).2.1)
                      (case side4 => repeat (first | exact (by repeat (first | (with_reducible exact HR13008_0.out) | (with_reducible refine Kd.C_alloc ?_ _) | (with_reducible refine Kd.C_drewN ?_ _) | (with_reducible refine Kd.C_drew ?_) | exact HR13008_0.out)) | (with_reducible refine Kd.C_alloc ?_ _) | (with_reducible refine Kd.C_drewN ?_ _) | (with_reducible refine Kd.C_drew ?_)))
                      (case side5 => exact HC13008_0.out)
                      rintro e w36 ⟨v13010, v13013, rfl, ho0, ho1, hb⟩
                      have HS2_ := (hb.cell (World.block_lt_of_cell? _ _ (hHeld.2.2))).trans (hHeld.2.2)
                      refine ⟨_, rfl, ?_⟩
                      have n0_ := Aside0.mk (Kd.N_elder' (Kd.N_ext HO_0.out) (Kd.R_base ho1) hb)
                      have n1_ := Aside0.mk (Kd.V_elder' (Kd.V_ext HO_13002000.out) (Kd.R_base ho1) hb)
                      have n2_ := Aside0.mk (Kd.V_elder' (Kd.V_ext HO_13002001.out) (Kd.R_base ho1) hb)
                      have n3_ := Aside0.mk (Kd.V_elder' (Kd.V_ext HO_13003001.out) (Kd.R_base ho1) hb)
                      have n4_ := Aside0.mk (Kd.V_elder' (Kd.V_ext HO_13007000.out) (Kd.R_base ho1) hb)
                      have n5_ := Aside0.mk (Kd.R_elder' (Kd.R_ext HO_13007001.out) (Kd.R_base ho1) hb)
                      have n6_ := Aside0.mk (Kd.V_elder' (Kd.V_ext HL13008_0.out) (Kd.R_base ho1) hb)
                      have n7_ := Aside0.mk (Kd.V_lower (Kd.V_mono (ok' := fun k_ => ((P0_ k_ ∨ P2_0_ k_ ∨ P2_1_ k_ ∨ P3_1_ k_) ∨ w.heap.size ≤ k_) ∧ some k_ ≠ (v13013 : Value).ownBlock ∧ some k_ ≠ (.slice (some ad13008) t13003.length co23 : Value).ownBlock ∧ some k_ ≠ (.slice Ao35 x13007001_1.length co35 : Value).ownBlock ∧ k_ ≠ gb13001 ∧ k_ ≠ gb13002 ∧ k_ ≠ gb13006) ho0 (fun k_ hk_ => ⟨Or.elim hk_.1 (fun hs_ => hs_.1) (fun hn_ => (.inr (Nat.le_trans (below_size (below_extB HB.out)) hn_))), hk_.2, Or.elim hk_.1 (fun hs_ => hs_.2.1) (fun hn_ => (Kd.fresh' (Kd.N_lt (Kd.N_ext HO_0.out)) k_ hn_)), Or.elim hk_.1 (fun hs_ => hs_.2.2.1) (fun hn_ => (Kd.fresh' (Kd.R_lt (Kd.R_ext HO_13007001.out)) k_ hn_)), Or.elim hk_.1 (fun hs_ => hs_.2.2.2.1) (fun hn_ => (Kd.freshB (blk_ext BK13001.out) k_ hn_)), Or.elim hk_.1 (fun hs_ => hs_.2.2.2.2.1) (fun hn_ => (Kd.freshB (blk_ext BK13002.out) k_ hn_)), Or.elim hk_.1 (fun hs_ => hs_.2.2.2.2.2) (fun hn_ => (Kd.freshB (blk_ext BK13006.out) k_ hn_))⟩)) (below_size (below_extB HB.out)))
                      have n8_ := Aside0.mk (Kd.R_lower (Kd.R_new' (Kd.R_newM (M := fun k_ => (w.heap.size ≤ k_)) (Kd.R_mono (ok' := fun k_ => True) ho1 (fun _ hk_ => trivial)) (below_size (below_extB HB.out)) (fun k_ h_ => h_)) (Kd.R_lt (Kd.R_ext HO_13007001.out))) (below_size (below_extB HB.out)))
                      have n9_ := Aside0.mk (blk_below (blk_ext BK13001.out) hb)
                      have n10_ := Aside0.mk (blk_below (blk_ext BK13002.out) hb)
                      have n11_ := Aside0.mk (blk_below (blk_ext BK13006.out) hb)
                      have n12_ := Aside0.mk (Kd.C_below (by repeat (first | (with_reducible exact HR13008_0.out) | (with_reducible refine Kd.C_alloc ?_ _) | (with_reducible refine Kd.C_drewN ?_ _) | (with_reducible refine Kd.C_drew ?_) | exact HR13008_0.out)) hb)
                      have n13_ := Aside0.mk (below_step (below_extB HB.out) hb)
                      clear HO_0
                      clear HO_13002000
                      clear HO_13002001
                      clear HO_13003001
                      clear HO_13007000
                      clear HO_13007001
                      clear HL13008_0
                      clear BK13001
                      clear BK13002
                      clear BK13006
                      clear HR13008_0
                      clear HB
                      have HO_0 := n0_
                      have HO_13002000 := n1_
                      have HO_13002001 := n2_
                      have HO_13003001 := n3_
                      have HO_13007000 := n4_
                      have HO_13007001 := n5_
                      have HL13008_0 := n6_
                      have HO13011 := n7_
                      have HO13014 := n8_
                      have BK13001 := n9_
                      have BK13002 := n10_
                      have BK13006 := n11_
                      have HR13008_0 := n12_
                      have HB := n13_
                      clear n0_ n1_ n2_ n3_ n4_ n5_ n6_ n7_ n8_ n9_ n10_ n11_ n12_ n13_
                      (try clear hb)
                      (try clear hb2)
                      (try clear hk)
                      (try clear hi)
                      (try clear ho0)
                      (try clear ho1)
                      obtain ⟨Ao37, co37, eo37⟩ := Kd.V_slice HO13011.out
                      (first | subst eo37 | (injection eo37 with f1_ f2_ f3_; have f4_ := f1_.symm; have f5_ := f3_.symm; clear f1_ f2_ f3_; subst f4_; subst f5_))
                      obtain ⟨Ao39, co39, eo39⟩ := Kd.R_slice HO13014.out
                      (first | subst eo39 | (injection eo39 with f1_ f2_ f3_; have f4_ := f1_.symm; have f5_ := f3_.symm; clear f1_ f2_ f3_; subst f4_; subst f5_))
                      refine hK.out _ _ ⟨(blk_cell BK13006.out 0).trans rfl, (blk_cell BK13006.out 1).trans rfl, HS2_⟩ (fun hHeld => ?_)
                      clear hK K
                      refine norm_ (a' := ?_) ?_ ?_
                      rotate_left
                      · show Act.put _ (some 60) _ = _
                        simp only [Act.put, List.setIfInBounds_toArray, List.set_cons_zero, List.set_cons_succ, i64_w, i32_w]
                        rfl
                      refine pure_ (i := 8) (N := some 52) (v := ?_) (a' := ?_) #[true, true, true, true, true, true, true, true, true, false, false, false] rfl rfl (any_of HT_.out (by kernel_rfl)) (fun _ _ _ h => h) (Or.inl ⟨by rfl, ?_⟩) ?_ ?_
                      rotate_left
                      · intro w'
                        go_simp
                        with_reducible rfl
                      rotate_left
                      · simp only [Act.put, List.setIfInBounds_toArray, List.set_cons_zero, List.set_cons_succ, i64_w, i32_w]
                        rfl
                      refine pure_ (i := 9) (N := some 61) (v := ?_) (a' := ?_) #[true, true, true, true, true, true, true, true, true, true, false, false] rfl rfl (any_of HT_.out (by kernel_rfl)) (fun _ _ _ h => h) (Or.inl ⟨by rfl, ?_⟩) ?_ ?_
                      rotate_left
                      · intro w'
                        go_simp
                        with_reducible rfl
                      rotate_left
                      · simp only [Act.put, List.setIfInBounds_toArray, List.set_cons_zero, List.set_cons_succ, i64_w, i32_w]
                        rfl
                      refine pure_ (i := 10) (N := some 62) (v := ?_) (a' := ?_) #[true, true, true, true, true, true, true, true, true, true, true, false] rfl rfl (any_of HT_.out (by kernel_rfl)) (fun _ _ _ h => h) (Or.inl ⟨by rfl, ?_⟩) ?_ ?_
                      rotate_left
                      · intro w'
                        go_simp
                        with_reducible rfl
                      rotate_left
                      · simp only [Act.put, List.setIfInBounds_toArray, List.set_cons_zero, List.set_cons_succ, i64_w, i32_w]
                        rfl
                      refine last_ (i := 11) (N := none) #[true, true, true, true, true, true, true, true, true, true, true, true] rfl rfl (one_of HT_.out (by kernel_rfl)) (by decide) (fun K hK => ?_)
                      have hs38 : w36.cell? ⟨gb13006, 0, none⟩ = some (.slice Ao34 x13007000_1.length co34) := (blk_cell BK13006.out 0).trans rfl
                      have hfs38 := blk_frozen BK13006.out 0
                      have hns38_0 := NB13001_13006.out
                      have hns38_1 := NB13002_13006.out
                      have hms38_0 := NB13006_13001.out
                      have hms38_1 := NB13006_13002.out
                      have hs40 : w36.cell? ⟨gb13006, 1, none⟩ = some (.slice Ao35 x13007001_1.length co35) := (blk_cell BK13006.out 1).trans rfl
                      have hfs40 := blk_frozen BK13006.out 1
                      have hns40_0 := NB13001_13006.out
                      have hns40_1 := NB13002_13006.out
                      have hms40_0 := NB13006_13001.out
                      have hms40_1 := NB13006_13002.out
                      refine skip_ (w1 := ?_) (by rfl) rfl ?_ ?_
                      rotate_left
                      · go_simp
                        rfl
                      refine hK.out _ _ ?_
                      clear hK K
                      refine done_ (done_of HT_.out (by kernel_rfl)) ?_
                      have hnb41 := NB13006_13001.out
                      have hnc41 := NB13001_13006.out
                      have hnb42 := NB13006_13002.out
                      have hnc42 := NB13002_13006.out
                      have hcz43_0 : w36.cell? ⟨gb13006, 0, none⟩ = some (.slice Ao34 x13007000_1.length co34) := (blk_cell BK13006.out 0).trans rfl
                      have hcz43_1 : w36.cell? ⟨gb13006, 1, none⟩ = some (.slice Ao35 x13007001_1.length co35) := (blk_cell BK13006.out 1).trans rfl
                      have hfz43_0 := blk_frozen BK13006.out 0
                      have hfz43_1 := blk_frozen BK13006.out 1
                      try go_wp2_with (first | ((with_reducible refine gate_callee (f := 20) rfl ?_); refine goesL_ (some 67) rfl rfl Try.func20 (by kernel_rfl) rfl #[.agg #[.slice Ao37 t13009.length co37, .slice Ao39 t13012.length co39]] rfl (by (try simp only [List.map_toArray, List.map_cons, List.map_nil]); first | done | rfl | (simp only [List.length_drop, List.length_take]; rfl)) ?_; (with_reducible refine (customsref33_Sync.calls _ _ t13009 _ _ t13012 t13016 t13019 _ ?side1 ?side2 ?side3 ?side4 A32.out).mono ?_); (case side1 => refine (Kd.V_reads' (e := 5) (base := w.heap.size) (ok := fun k_ => ((((P0_ k_ ∨ P2_0_ k_ ∨ P2_1_ k_ ∨ P3_1_ k_) ∨ w.heap.size ≤ k_)) ∧ (some k_ ≠ (.slice Ao39 t13012.length co39 : Value).ownBlock ∧ (some k_ ≠ (.slice (some ad13008) t13003.length co23 : Value).ownBlock ∧ (some k_ ≠ (.slice Ao35 x13007001_1.length co35 : Value).ownBlock ∧ (k_ ≠ gb13001 ∧ (k_ ≠ gb13002 ∧ k_ ≠ gb13006))))))) (n := t13009.length) (c := co37) ?_).2.2; exact (Kd.V_ext ((Kd.V_mono (Kd.V_far (p := ⟨gb13006, 1, none⟩) (Kd.V_far (p := ⟨gb13006, 0, none⟩) (Kd.V_mono HO13011.out (fun k_ hk => (⟨hk, hk.2.2.2.2.2.2⟩ : _ ∧ k_ ≠ gb13006))) (fun _ hk => hk.2) (.slice Ao37 t13009.length co37)) (fun _ hk => hk.2) (.slice Ao39 t13012.length co39)) (fun _ h_ => h_.1))))); (case side2 => exact (Kd.V_reads' HO13011.out).2.1); (case side3 => refine (Kd.R_reads' (e := 5) (base := w.heap.size) (ok := fun k_ => (((w.heap.size ≤ k_) ∧ True) ∧ some k_ ≠ (.slice Ao35 x13007001_1.length co35 : Value).ownBlock)) (n := t13012.length) (c := co39) ?_).2.2; exact (Kd.R_ext ((Kd.R_mono (Kd.R_far (p := ⟨gb13006, 1, none⟩) (Kd.R_far (p := ⟨gb13006, 0, none⟩) (Kd.R_types HO13014.out BK13006.out (by decide)) (fun _ hk => hk.2) (.slice Ao37 t13009.length co37)) (fun _ hk => hk.2) (.slice Ao39 t13012.length co39)) (fun _ h_ => h_.1))))); (case side4 => exact (Kd.R_reads' HO13014.out).2.1); rintro e w44 ⟨v13017, v13020, rfl, ho0, ho1, hb⟩; refine ⟨_, rfl, ?_⟩; have n0_ := Aside0.mk (Kd.N_mono (Kd.N_told (Kd.N_told (Kd.N_old (Kd.N_ext ((Kd.N_mono (Kd.N_far (p := ⟨gb13006, 1, none⟩) (Kd.N_far (p := ⟨gb13006, 0, none⟩) (Kd.N_mono HO_0.out (fun k_ hk => (⟨hk, hk.1.2.2.2.2⟩ : _ ∧ k_ ≠ gb13006))) (fun _ hk => hk.2) (.slice Ao37 t13009.length co37)) (fun _ hk => hk.2) (.slice Ao39 t13012.length co39)) (fun _ h_ => h_.1)))) hb) (Kd.R_base ho0)) (Kd.R_base ho1)) (fun _ h_ => h_.1)); have n1_ := Aside0.mk (Kd.V_mono (Kd.V_told (Kd.V_told (Kd.V_old (Kd.V_ext ((Kd.V_mono (Kd.V_far (p := ⟨gb13006, 1, none⟩) (Kd.V_far (p := ⟨gb13006, 0, none⟩) (Kd.V_mono HO_13002000.out (fun k_ hk => (⟨hk, hk.1.2.2.2.2.2⟩ : _ ∧ k_ ≠ gb13006))) (fun _ hk => hk.2) (.slice Ao37 t13009.length co37)) (fun _ hk => hk.2) (.slice Ao39 t13012.length co39)) (fun _ h_ => h_.1)))) hb) (Kd.R_base ho0)) (Kd.R_base ho1)) (fun _ h_ => h_.1)); have n2_ := Aside0.mk (Kd.V_mono (Kd.V_told (Kd.V_told (Kd.V_old (Kd.V_ext ((Kd.V_mono (Kd.V_far (p := ⟨gb13006, 1, none⟩) (Kd.V_far (p := ⟨gb13006, 0, none⟩) (Kd.V_mono HO_13002001.out (fun k_ hk => (⟨hk, hk.1.2.2.2.2.2⟩ : _ ∧ k_ ≠ gb13006))) (fun _ hk => hk.2) (.slice Ao37 t13009.length co37)) (fun _ hk => hk.2) (.slice Ao39 t13012.length co39)) (fun _ h_ => h_.1)))) hb) (Kd.R_base ho0)) (Kd.R_base ho1)) (fun _ h_ => h_.1)); have n3_ := Aside0.mk (Kd.V_mono (Kd.V_told (Kd.V_told (Kd.V_old (Kd.V_ext ((Kd.V_mono (Kd.V_far (p := ⟨gb13006, 1, none⟩) (Kd.V_far (p := ⟨gb13006, 0, none⟩) (Kd.V_mono HO_13003001.out (fun k_ hk => (⟨hk, hk.1.2.2.2.2.2⟩ : _ ∧ k_ ≠ gb13006))) (fun _ hk => hk.2) (.slice Ao37 t13009.length co37)) (fun _ hk => hk.2) (.slice Ao39 t13012.length co39)) (fun _ h_ => h_.1)))) hb) (Kd.R_base ho0)) (Kd.R_base ho1)) (fun _ h_ => h_.1)); have n4_ := Aside0.mk (Kd.V_mono (Kd.V_told (Kd.V_told (Kd.V_old (Kd.V_ext ((Kd.V_mono (Kd.V_far (p := ⟨gb13006, 1, none⟩) (Kd.V_far (p := ⟨gb13006, 0, none⟩) (Kd.V_mono HO_13007000.out (fun k_ hk => (⟨hk, hk.1.2.2.2.2.2⟩ : _ ∧ k_ ≠ gb13006))) (fun _ hk => hk.2) (.slice Ao37 t13009.length co37)) (fun _ hk => hk.2) (.slice Ao39 t13012.length co39)) (fun _ h_ => h_.1)))) hb) (Kd.R_base ho0)) (Kd.R_base ho1)) (fun _ h_ => h_.1)); have n5_ := Aside0.mk (Kd.R_mono (Kd.R_told (Kd.R_told (Kd.R_old (Kd.R_ext ((Kd.R_mono (Kd.R_far (p := ⟨gb13006, 1, none⟩) (Kd.R_far (p := ⟨gb13006, 0, none⟩) (Kd.R_types HO_13007001.out BK13006.out (by decide)) (fun _ hk => hk.2) (.slice Ao37 t13009.length co37)) (fun _ hk => hk.2) (.slice Ao39 t13012.length co39)) (fun _ h_ => h_.1)))) hb) (Kd.R_base ho0)) (Kd.R_base ho1)) (fun _ h_ => h_.1)); have n6_ := Aside0.mk (Kd.V_mono (Kd.V_told (Kd.V_told (Kd.V_old (Kd.V_ext ((Kd.V_mono (Kd.V_far (p := ⟨gb13006, 1, none⟩) (Kd.V_far (p := ⟨gb13006, 0, none⟩) (Kd.V_mono HL13008_0.out (fun k_ hk => (⟨hk, hk.1.1.2.2.2.2⟩ : _ ∧ k_ ≠ gb13006))) (fun _ hk => hk.2) (.slice Ao37 t13009.length co37)) (fun _ hk => hk.2) (.slice Ao39 t13012.length co39)) (fun _ h_ => h_.1)))) hb) (Kd.R_base ho0)) (Kd.R_base ho1)) (fun _ h_ => h_.1)); have n7_ := Aside0.mk (Kd.V_mono (Kd.V_told (Kd.V_told (Kd.V_old (Kd.V_ext ((Kd.V_mono (Kd.V_far (p := ⟨gb13006, 1, none⟩) (Kd.V_far (p := ⟨gb13006, 0, none⟩) (Kd.V_mono HO13011.out (fun k_ hk => (⟨hk, hk.2.2.2.2.2.2⟩ : _ ∧ k_ ≠ gb13006))) (fun _ hk => hk.2) (.slice Ao37 t13009.length co37)) (fun _ hk => hk.2) (.slice Ao39 t13012.length co39)) (fun _ h_ => h_.1)))) hb) (Kd.R_base ho0)) (Kd.R_base ho1)) (fun _ h_ => h_.1)); have n8_ := Aside0.mk (Kd.R_mono (Kd.R_told (Kd.R_told (Kd.R_old (Kd.R_ext ((Kd.R_mono (Kd.R_far (p := ⟨gb13006, 1, none⟩) (Kd.R_far (p := ⟨gb13006, 0, none⟩) (Kd.R_types HO13014.out BK13006.out (by decide)) (fun _ hk => hk.2) (.slice Ao37 t13009.length co37)) (fun _ hk => hk.2) (.slice Ao39 t13012.length co39)) (fun _ h_ => h_.1)))) hb) (Kd.R_base ho0)) (Kd.R_base ho1)) (fun _ h_ => h_.1)); have n9_ := Aside0.mk (Kd.R_lower (Kd.R_new' (Kd.R_new' (Kd.R_newM (M := fun k_ => (w.heap.size ≤ k_)) ho0 (below_size (below_extB HB.out)) (fun k_ h_ => h_)) (Kd.R_lt (Kd.R_ext ((Kd.R_mono (Kd.R_far (p := ⟨gb13006, 1, none⟩) (Kd.R_far (p := ⟨gb13006, 0, none⟩) (Kd.R_types HO_13007001.out BK13006.out (by decide)) (fun _ hk => hk.2) (.slice Ao37 t13009.length co37)) (fun _ hk => hk.2) (.slice Ao39 t13012.length co39)) (fun _ h_ => h_.1)))))) (Kd.R_lt (Kd.R_ext ((Kd.R_mono (Kd.R_far (p := ⟨gb13006, 1, none⟩) (Kd.R_far (p := ⟨gb13006, 0, none⟩) (Kd.R_types HO13014.out BK13006.out (by decide)) (fun _ hk => hk.2) (.slice Ao37 t13009.length co37)) (fun _ hk => hk.2) (.slice Ao39 t13012.length co39)) (fun _ h_ => h_.1)))))) (below_size (below_extB HB.out))); have n10_ := Aside0.mk (Kd.R_lower (Kd.R_new' (Kd.R_new' (Kd.R_newM (M := fun k_ => (w.heap.size ≤ k_)) ho1 (below_size (below_extB HB.out)) (fun k_ h_ => h_)) (Kd.R_lt (Kd.R_ext ((Kd.R_mono (Kd.R_far (p := ⟨gb13006, 1, none⟩) (Kd.R_far (p := ⟨gb13006, 0, none⟩) (Kd.R_types HO_13007001.out BK13006.out (by decide)) (fun _ hk => hk.2) (.slice Ao37 t13009.length co37)) (fun _ hk => hk.2) (.slice Ao39 t13012.length co39)) (fun _ h_ => h_.1)))))) (Kd.R_lt (Kd.R_ext ((Kd.R_mono (Kd.R_far (p := ⟨gb13006, 1, none⟩) (Kd.R_far (p := ⟨gb13006, 0, none⟩) (Kd.R_types HO13014.out BK13006.out (by decide)) (fun _ hk => hk.2) (.slice Ao37 t13009.length co37)) (fun _ hk => hk.2) (.slice Ao39 t13012.length co39)) (fun _ h_ => h_.1)))))) (below_size (below_extB HB.out))); have n11_ := Aside0.mk (blk_below (g := gb13001) (o := .cells #[.slice A2_0 l2_0.length c2_0, .slice A2_1 l2_1.length c2_1] 24 (0, 0)) (by (with_reducible repeat (first | refine blk_drewN ?_ _ | refine blk_drew ?_ | refine blk_alloc ?_ _)); refine blk_far ?_ NB13001_13006.out _; (with_reducible repeat (first | refine blk_drewN ?_ _ | refine blk_drew ?_ | refine blk_alloc ?_ _)); refine blk_far ?_ NB13001_13006.out _; exact blk_ext BK13001.out) hb); have n12_ := Aside0.mk (blk_below (g := gb13002) (o := .cells #[.int .i64 a3_0, .slice A3_1 l3_1.length c3_1] 57 (0, 0)) (by (with_reducible repeat (first | refine blk_drewN ?_ _ | refine blk_drew ?_ | refine blk_alloc ?_ _)); refine blk_far ?_ NB13002_13006.out _; (with_reducible repeat (first | refine blk_drewN ?_ _ | refine blk_drew ?_ | refine blk_alloc ?_ _)); refine blk_far ?_ NB13002_13006.out _; exact blk_ext BK13002.out) hb); have n13_ := Aside0.mk (blk_below (g := gb13006) (o := .cells #[.slice Ao37 t13009.length co37, .slice Ao39 t13012.length co39] 24 (0, 0)) (by (with_reducible repeat (first | refine blk_drewN ?_ _ | refine blk_drew ?_ | refine blk_alloc ?_ _)); refine blk_put (cs := #[.slice Ao37 t13009.length co37, .slice Ao35 x13007001_1.length co35]) ?_ 1 _ rfl; (with_reducible repeat (first | refine blk_drewN ?_ _ | refine blk_drew ?_ | refine blk_alloc ?_ _)); refine blk_put (cs := #[.slice Ao34 x13007000_1.length co34, .slice Ao35 x13007001_1.length co35]) ?_ 0 _ rfl; exact blk_ext BK13006.out) hb); have n14_ := Aside0.mk (Kd.C_below ((Kd.V_reads' (Kd.V_ext ((Kd.V_mono (Kd.V_far (p := ⟨gb13006, 1, none⟩) (Kd.V_far (p := ⟨gb13006, 0, none⟩) (Kd.V_mono HL13008_0.out (fun k_ hk => (⟨hk, hk.1.1.2.2.2.2⟩ : _ ∧ k_ ≠ gb13006))) (fun _ hk => hk.2) (.slice Ao37 t13009.length co37)) (fun _ hk => hk.2) (.slice Ao39 t13012.length co39)) (fun _ h_ => h_.1))))).2.2) hb); have n15_ := Aside0.mk (below_step (below_extB HB.out) hb); clear HO_0; clear HO_13002000; clear HO_13002001; clear HO_13003001; clear HO_13007000; clear HO_13007001; clear HL13008_0; clear HO13011; clear HO13014; clear BK13001; clear BK13002; clear BK13006; clear HR13008_0; clear HB; have HO_0 := n0_; have HO_13002000 := n1_; have HO_13002001 := n2_; have HO_13003001 := n3_; have HO_13007000 := n4_; have HO_13007001 := n5_; have HL13008_0 := n6_; have HO13011 := n7_; have HO13014 := n8_; have HO13018 := n9_; have HO13021 := n10_; have BK13001 := n11_; have BK13002 := n12_; have BK13006 := n13_; have HR13008_0 := n14_; have HB := n15_; clear n0_ n1_ n2_ n3_ n4_ n5_ n6_ n7_ n8_ n9_ n10_ n11_ n12_ n13_ n14_ n15_; (try clear hb); (try clear hb2); (try clear hk); (try clear hi); (try clear ho0); (try clear ho1); obtain ⟨Ao45, co45, eo45⟩ := Kd.R_slice HO13018.out; subst eo45; have hcz46_0 : w44.cell? ⟨gb13006, 0, none⟩ = some (.slice Ao37 t13009.length co37) := (blk_cell BK13006.out 0).trans rfl; have hcz46_1 : w44.cell? ⟨gb13006, 1, none⟩ = some (.slice Ao39 t13012.length co39) := (blk_cell BK13006.out 1).trans rfl; have hfz46_0 := blk_frozen BK13006.out 0; have hfz46_1 := blk_frozen BK13006.out 1; obtain ⟨Ao47, co47, eo47⟩ := Kd.R_slice HO13021.out; subst eo47))
                      go_roundg kj25
                      case measure => have := HK1.out; have := HJ21.out; have := HJ25.out; omega
                      case rel => exact ⟨(wrap64 (x12_1 + 1)), (t13016), (t13019), (.slice Ao45 t13016.length co45), (.slice Ao47 t13019.length co47), (by first | rfl | (simp; done) | (simp [*]; done)), H', ⟨by have := HK1.out; have := HJ21.out; have := HJ25.out; omega⟩, ⟨Kd.N_ext (Kd.N_mono (Kd.N_far (p := ⟨gb13006, 1, none⟩) (Kd.N_far (p := ⟨gb13006, 0, none⟩) (Kd.N_mono HO_0.out (fun k_ hk => (⟨hk, hk.1.1.1.2.2.2.2⟩ : _ ∧ k_ ≠ gb13006))) (fun _ hk => hk.2) (.slice Ao45 t13016.length co45)) (fun _ hk => hk.2) (.slice Ao47 t13019.length co47)) (fun _ hk => ⟨hk.1.1.1.1.1, ⟨hk.1.2, ⟨hk.1.1.1.1.2.2.1, ⟨hk.1.1.1.1.2.2.2.1, hk.1.1.1.1.2.2.2.2⟩⟩⟩⟩))⟩, ⟨Kd.V_ext (Kd.V_mono (Kd.V_far (p := ⟨gb13006, 1, none⟩) (Kd.V_far (p := ⟨gb13006, 0, none⟩) (Kd.V_mono HO_13002000.out (fun k_ hk => (⟨hk, hk.1.1.1.2.2.2.2.2⟩ : _ ∧ k_ ≠ gb13006))) (fun _ hk => hk.2) (.slice Ao45 t13016.length co45)) (fun _ hk => hk.2) (.slice Ao47 t13019.length co47)) (fun _ hk => ⟨hk.1.1.1.1.1, ⟨hk.1.1.1.1.2.1, ⟨hk.1.2, ⟨hk.1.1.1.1.2.2.2.1, ⟨hk.1.1.1.1.2.2.2.2.1, hk.1.1.1.1.2.2.2.2.2⟩⟩⟩⟩⟩))⟩, ⟨Kd.V_ext (Kd.V_mono (Kd.V_far (p := ⟨gb13006, 1, none⟩) (Kd.V_far (p := ⟨gb13006, 0, none⟩) (Kd.V_mono HO_13002001.out (fun k_ hk => (⟨hk, hk.1.1.1.2.2.2.2.2⟩ : _ ∧ k_ ≠ gb13006))) (fun _ hk => hk.2) (.slice Ao45 t13016.length co45)) (fun _ hk => hk.2) (.slice Ao47 t13019.length co47)) (fun _ hk => ⟨hk.1.1.1.1.1, ⟨hk.1.1.1.1.2.1, ⟨hk.1.2, ⟨hk.1.1.1.1.2.2.2.1, ⟨hk.1.1.1.1.2.2.2.2.1, hk.1.1.1.1.2.2.2.2.2⟩⟩⟩⟩⟩))⟩, ⟨Kd.V_ext (Kd.V_mono (Kd.V_far (p := ⟨gb13006, 1, none⟩) (Kd.V_far (p := ⟨gb13006, 0, none⟩) (Kd.V_mono HO_13003001.out (fun k_ hk => (⟨hk, hk.1.1.1.2.2.2.2.2⟩ : _ ∧ k_ ≠ gb13006))) (fun _ hk => hk.2) (.slice Ao45 t13016.length co45)) (fun _ hk => hk.2) (.slice Ao47 t13019.length co47)) (fun _ hk => ⟨hk.1.1.1.1.1, ⟨hk.1.1.1.1.2.1, ⟨hk.1.2, ⟨hk.1.1.1.1.2.2.2.1, ⟨hk.1.1.1.1.2.2.2.2.1, hk.1.1.1.1.2.2.2.2.2⟩⟩⟩⟩⟩))⟩, ⟨Kd.V_mono (Kd.R_V (Kd.R_ext (Kd.R_mono (Kd.R_far (p := ⟨gb13006, 1, none⟩) (Kd.R_far (p := ⟨gb13006, 0, none⟩) (Kd.R_types (Kd.R_types (Kd.R_types (Kd.R_types (Kd.R_apart' HO13018.out (Kd.N_typed HO_0.out) (by decide)) BK13001.out (by decide)) BK13002.out (by decide)) BK13006.out (by decide)) BK13006.out (by decide)) (fun _ hk => hk.2) (.slice Ao45 t13016.length co45)) (fun _ hk => hk.2) (.slice Ao47 t13019.length co47)) (fun _ hk => (And.intro (hk.1.1.1.1.1.1.1.1) (And.intro (hk.1.1.1.1.2) (And.intro (hk.1.1.1.1.1.1.1.2) (And.intro (hk.1.1.1.2) (And.intro (hk.1.1.2) (hk.1.2)))))))))) (fun k_ hk => by first | exact ⟨(.inr (hk.1)), hk.2⟩ | exact (.inr (hk)))⟩, ⟨Kd.R_ext (Kd.R_mono (Kd.R_far (p := ⟨gb13006, 1, none⟩) (Kd.R_far (p := ⟨gb13006, 0, none⟩) (Kd.R_types HO13021.out BK13006.out (by decide)) (fun _ hk => hk.2) (.slice Ao45 t13016.length co45)) (fun _ hk => hk.2) (.slice Ao47 t13019.length co47)) (fun _ hk => hk.1.1.1.1))⟩, ⟨by (with_reducible repeat (first | refine blk_drewN ?_ _ | refine blk_drew ?_ | refine blk_alloc ?_ _)); refine blk_far ?_ NB13001_13006.out _; (with_reducible repeat (first | refine blk_drewN ?_ _ | refine blk_drew ?_ | refine blk_alloc ?_ _)); refine blk_far ?_ NB13001_13006.out _; exact blk_ext BK13001.out⟩, ⟨by (with_reducible repeat (first | refine blk_drewN ?_ _ | refine blk_drew ?_ | refine blk_alloc ?_ _)); refine blk_far ?_ NB13002_13006.out _; (with_reducible repeat (first | refine blk_drewN ?_ _ | refine blk_drew ?_ | refine blk_alloc ?_ _)); refine blk_far ?_ NB13002_13006.out _; exact blk_ext BK13002.out⟩, ⟨by (with_reducible repeat (first | refine blk_drewN ?_ _ | refine blk_drew ?_ | refine blk_alloc ?_ _)); refine blk_put (cs := #[.slice Ao45 t13016.length co45, .slice Ao39 t13012.length co39]) ?_ 1 _ rfl; (with_reducible repeat (first | refine blk_drewN ?_ _ | refine blk_drew ?_ | refine blk_alloc ?_ _)); refine blk_put (cs := #[.slice Ao37 t13009.length co37, .slice Ao39 t13012.length co39]) ?_ 0 _ rfl; exact blk_ext BK13006.out⟩, ⟨below_extB HB.out⟩⟩
                    · rw [if_neg c31] at H
                      have c31b0 : ((Int.tmod x12_1 3) == 1) = false := beq_eq_false_iff_ne.mpr c31
                      have c31b1 : ((Int.tmod x12_1 3) != 1) = true := bne_iff_ne.mpr c31
                      have H' := Aside0.mk H
                      clear H
                      try go_wp2
                      have n0_ := Aside0.mk (Kd.N_drew HO_0.out)
                      have n1_ := Aside0.mk (Kd.V_drew HO_13002000.out)
                      have n2_ := Aside0.mk (Kd.V_drew HO_13002001.out)
                      have n3_ := Aside0.mk (Kd.V_drew HO_13003001.out)
                      have n4_ := Aside0.mk (Kd.V_drew HO_13007000.out)
                      have n5_ := Aside0.mk (Kd.R_drew HO_13007001.out)
                      have n6_ := Aside0.mk (blk_drew BK13001.out)
                      have n7_ := Aside0.mk (blk_drew BK13002.out)
                      have n8_ := Aside0.mk (blk_drew BK13006.out)
                      have n9_ := Aside0.mk (below_drew1 HB.out)
                      clear HO_0
                      clear HO_13002000
                      clear HO_13002001
                      clear HO_13003001
                      clear HO_13007000
                      clear HO_13007001
                      clear BK13001
                      clear BK13002
                      clear BK13006
                      clear HB
                      have HO_0 := n0_
                      have HO_13002000 := n1_
                      have HO_13002001 := n2_
                      have HO_13003001 := n3_
                      have HO_13007000 := n4_
                      have HO_13007001 := n5_
                      have BK13001 := n6_
                      have BK13002 := n7_
                      have BK13006 := n8_
                      have HB := n9_
                      clear n0_ n1_ n2_ n3_ n4_ n5_ n6_ n7_ n8_ n9_
                      have p13008 : 0 ≤ (x12_1 : Int) := of_decide_eq_true (by first | (with_reducible assumption) | assumption)
                      have q13008 : x12_1 < (t13003.length : Int) := of_decide_eq_true (by first | (with_reducible assumption) | assumption)
                      obtain ⟨ad13008, A13008_0, c13008_0, e13008, hx13008_0, hl13008_0, hi13008_0⟩ := at_L1 (Kd.N_reads' HO_0.out).2.2 x12_1 p13008 q13008
                      cases e13008
                      obtain ⟨ce13008, hce13008, hMe13008, hcc13008⟩ := Kd.N_get HO_0.out [] x12_1 p13008 (by first | exact q13008 | exact of_decide_eq_true (by first | (with_reducible assumption) | assumption) | (have e_ := (Kd.N_reads' HO_0.out).1; omega))
                      obtain ⟨ua13008_0, uc13008_0, rfl, ul13008_0, ge13008_0⟩ := Kd.FK_slice_open hMe13008
                      have hv13008_0 := hcc13008 0 _ rfl
                      rw [Nat.add_zero, show ((Kd.slice 5 (Kd.int .u8))).sz = 1 from rfl, Nat.mul_one] at hv13008_0
                      replace hv13008_0 := Option.some.inj (hv13008_0.symm.trans hx13008_0)
                      injection hv13008_0 with hva_ hvn_ hvc_
                      rw [hva_] at ge13008_0
                      rw [hvc_] at ul13008_0
                      have HL13008_0 := Aside0.mk (show Kd.V (Kd.int .u8) 5 _ w.heap.size _ _ (rd_L1 t13003 x12_1) from Kd.V_mk ul13008_0 ge13008_0)
                      clear hva_ hvn_ hvc_ ge13008_0 ul13008_0
                      clear hcc13008 hce13008
                      have HR13008_0 := Aside0.mk hi13008_0
                      have HC13008_0 := Aside0.mk hl13008_0
                      clear hi13008_0 hl13008_0
                      replace p13008 := eq_true p13008
                      replace q13008 := eq_true q13008
                      obtain ⟨Ao49, co49, eo49⟩ := Kd.V_slice HO_13007000.out
                      (first | subst eo49 | (injection eo49 with f1_ f2_ f3_; have f4_ := f1_.symm; have f5_ := f3_.symm; clear f1_ f2_ f3_; subst f4_; subst f5_))
                      obtain ⟨Ao50, co50, eo50⟩ := Kd.R_slice HO_13007001.out
                      (first | subst eo50 | (injection eo50 with f1_ f2_ f3_; have f4_ := f1_.symm; have f5_ := f3_.symm; clear f1_ f2_ f3_; subst f4_; subst f5_))
                      refine start_ (n := 12) (S := fun w' => w'.cell? ⟨gb13006, 0, none⟩ = some (.slice Ao49 x13007000_1.length co49) ∧ w'.cell? ⟨gb13006, 1, none⟩ = some (.slice Ao50 x13007001_1.length co50) ∧ w'.cell? (ad13008.add (x12_1).toNat) = some (.slice A13008_0 (rd_L1 t13003 x12_1).length c13008_0)) (ds := [11]) #[false, false, false, false, false, false, false, false, false, false, false, false] (by kernel_rfl) rfl rfl ⟨(blk_cell BK13006.out 0).trans rfl, (blk_cell BK13006.out 1).trans rfl, hx13008_0⟩ (fun hHeld => ?_); refine with_tabW customslaw34_JournalOpen.tab11 customslaw34_JournalOpen.bits11 (fun HT_ HW_ => ?_)
                      generalize wc.drew = w48 at HO_0 HO_13002000 HO_13002001 HO_13003001 HO_13007000 HO_13007001 BK13001 BK13002 BK13006 HB HL13008_0 HR13008_0 hx13008_0 hHeld ⊢
                      refine pure_ (i := 1) (N := some 54) (v := ?_) (a' := ?_) #[false, true, false, false, false, false, false, false, false, false, false, false] rfl rfl (any_of HT_.out (by kernel_rfl)) (fun _ _ _ h => h) (Or.inl ⟨by rfl, ?_⟩) ?_ ?_
                      rotate_left
                      · intro w'
                        go_simp
                        with_reducible rfl
                      rotate_left
                      · simp only [Act.put, List.setIfInBounds_toArray, List.set_cons_zero, List.set_cons_succ, i64_w, i32_w]
                        rfl
                      refine pure_ (i := 2) (N := some 55) (v := ?_) (a' := ?_) #[false, true, true, false, false, false, false, false, false, false, false, false] rfl rfl (any_of HT_.out (by kernel_rfl)) (fun _ _ _ h => h) (Or.inl ⟨by rfl, ?_⟩) ?_ ?_
                      rotate_left
                      · intro w'
                        go_simp
                        with_reducible rfl
                      rotate_left
                      · simp only [Act.put, List.setIfInBounds_toArray, List.set_cons_zero, List.set_cons_succ, i64_w, i32_w]
                        rfl
                      refine pure_ (i := 3) (N := some 56) (v := ?_) (a' := ?_) #[false, true, true, true, false, false, false, false, false, false, false, false] rfl rfl (any_of HT_.out (by kernel_rfl)) (fun _ _ _ h => h) (Or.inl ⟨by rfl, ?_⟩) ?_ ?_
                      rotate_left
                      · intro w'
                        go_simp
                        with_reducible rfl
                      rotate_left
                      · simp only [Act.put, List.setIfInBounds_toArray, List.set_cons_zero, List.set_cons_succ, i64_w, i32_w]
                        rfl
                      refine pure_ (i := 4) (N := some 57) (v := ?_) (a' := ?_) #[false, true, true, true, true, false, false, false, false, false, false, false] rfl rfl (any_of HT_.out (by kernel_rfl)) (fun _ _ _ h => h) (Or.inl ⟨by rfl, ?_⟩) ?_ ?_
                      rotate_left
                      · intro w'
                        go_simp
                        with_reducible rfl
                      rotate_left
                      · simp only [Act.put, List.setIfInBounds_toArray, List.set_cons_zero, List.set_cons_succ, i64_w, i32_w]
                        rfl
                      refine take_ (i := 0) (N := some 53) (v := ?_) (a' := ?_) #[true, true, true, true, true, false, false, false, false, false, false, false] rfl rfl (take_ofW HT_.out HW_.out (by kernel_rfl)) (fun _ _ _ h => h) (Or.inl ⟨by rfl, ?_⟩) hHeld ?_ ?_
                      rotate_left
                      · rintro w' ⟨s0, s1, s2⟩
                        go_simp
                        with_reducible rfl
                      rotate_left
                      · simp only [Act.put, List.setIfInBounds_toArray, List.set_cons_zero, List.set_cons_succ, i64_w, i32_w]
                        rfl
                      refine take_ (i := 5) (N := some 58) (v := ?_) (a' := ?_) #[true, true, true, true, true, true, false, false, false, false, false, false] rfl rfl (take_ofW HT_.out HW_.out (by kernel_rfl)) (fun _ _ _ h => h) (Or.inl ⟨by rfl, ?_⟩) hHeld ?_ ?_
                      rotate_left
                      · rintro w' ⟨s0, s1, s2⟩
                        go_simp
                        with_reducible rfl
                      rotate_left
                      · simp only [Act.put, List.setIfInBounds_toArray, List.set_cons_zero, List.set_cons_succ, i64_w, i32_w]
                        rfl
                      refine pure_ (i := 6) (N := some 59) (v := ?_) (a' := ?_) #[true, true, true, true, true, true, true, false, false, false, false, false] rfl rfl (any_of HT_.out (by kernel_rfl)) (fun _ _ _ h => h) (Or.inl ⟨by rfl, ?_⟩) ?_ ?_
                      rotate_left
                      · intro w'
                        go_simp
                        with_reducible rfl
                      rotate_left
                      · simp only [Act.put, List.setIfInBounds_toArray, List.set_cons_zero, List.set_cons_succ, i64_w, i32_w]
                        rfl
                      refine one_ (i := 7) (N := some 60) #[true, true, true, true, true, true, true, true, false, false, false, false] rfl rfl (one_of HT_.out (by kernel_rfl)) (by decide) (fun K hK => ?_)
                      refine goes_ Try.func57 (by kernel_rfl) rfl #[.agg #[.slice Ao49 x13007000_1.length co49, .slice Ao50 x13007001_1.length co50], .agg #[.int .i64 x13_25, .slice A13008_0 (rd_L1 t13003 x12_1).length c13008_0]] (by rfl) rfl rfl (by (try simp only [List.map_toArray, List.map_cons, List.map_nil]); first | done | rfl | (simp only [List.length_drop, List.length_take]; rfl)) ?_
                      with_reducible refine (customsref33_Put.calls kj25 (fun k_ => (((P0_ k_ ∨ P2_0_ k_ ∨ P2_1_ k_ ∨ P3_1_ k_) ∨ w.heap.size ≤ k_) ∧ (some k_ ≠ (.slice (some ad13008) t13003.length co23 : Value).ownBlock ∧ (some k_ ≠ (.slice Ao50 x13007001_1.length co50 : Value).ownBlock ∧ (k_ ≠ gb13001 ∧ (k_ ≠ gb13002 ∧ k_ ≠ gb13006)))))) _ _ x13007000_1 _ _ x13007001_1 x13_25 _ _ (rd_L1 t13003 x12_1) t13009 t13012 t13015 _ ?side1 ?side2 ?side3 ?side4 ?side5 A30.out).mono ?_
                      (case side1 => exact HO_13007000.out)
                      (case side2 => exact Kd.C_ext (Kd.R_reads' HO_13007001.out).2.2)
                      (case side3 => exact (Kd.R_reads' HO_13007001.out).2.1)
                      (case side4 => repeat (first | exact (by repeat (first | (with_reducible exact HR13008_0.out) | (with_reducible refine Kd.C_alloc ?_ _) | (with_reducible refine Kd.C_drewN ?_ _) | (with_reducible refine Kd.C_drew ?_) | exact HR13008_0.out)) | (with_reducible refine Kd.C_alloc ?_ _) | (with_reducible refine Kd.C_drewN ?_ _) | (with_reducible refine Kd.C_drew ?_)))
                      (case side5 => exact HC13008_0.out)
                      rintro e w51 ⟨v13010, v13013, rfl, ho0, ho1, hb⟩
                      have HS2_ := (hb.cell (World.block_lt_of_cell? _ _ (hHeld.2.2))).trans (hHeld.2.2)
                      refine ⟨_, rfl, ?_⟩
                      have n0_ := Aside0.mk (Kd.N_elder' (Kd.N_ext HO_0.out) (Kd.R_base ho1) hb)
                      have n1_ := Aside0.mk (Kd.V_elder' (Kd.V_ext HO_13002000.out) (Kd.R_base ho1) hb)
                      have n2_ := Aside0.mk (Kd.V_elder' (Kd.V_ext HO_13002001.out) (Kd.R_base ho1) hb)
                      have n3_ := Aside0.mk (Kd.V_elder' (Kd.V_ext HO_13003001.out) (Kd.R_base ho1) hb)
                      have n4_ := Aside0.mk (Kd.V_elder' (Kd.V_ext HO_13007000.out) (Kd.R_base ho1) hb)
                      have n5_ := Aside0.mk (Kd.R_elder' (Kd.R_ext HO_13007001.out) (Kd.R_base ho1) hb)
                      have n6_ := Aside0.mk (Kd.V_elder' (Kd.V_ext HL13008_0.out) (Kd.R_base ho1) hb)
                      have n7_ := Aside0.mk (Kd.V_lower (Kd.V_mono (ok' := fun k_ => ((P0_ k_ ∨ P2_0_ k_ ∨ P2_1_ k_ ∨ P3_1_ k_) ∨ w.heap.size ≤ k_) ∧ some k_ ≠ (v13013 : Value).ownBlock ∧ some k_ ≠ (.slice (some ad13008) t13003.length co23 : Value).ownBlock ∧ some k_ ≠ (.slice Ao50 x13007001_1.length co50 : Value).ownBlock ∧ k_ ≠ gb13001 ∧ k_ ≠ gb13002 ∧ k_ ≠ gb13006) ho0 (fun k_ hk_ => ⟨Or.elim hk_.1 (fun hs_ => hs_.1) (fun hn_ => (.inr (Nat.le_trans (below_size (below_extB HB.out)) hn_))), hk_.2, Or.elim hk_.1 (fun hs_ => hs_.2.1) (fun hn_ => (Kd.fresh' (Kd.N_lt (Kd.N_ext HO_0.out)) k_ hn_)), Or.elim hk_.1 (fun hs_ => hs_.2.2.1) (fun hn_ => (Kd.fresh' (Kd.R_lt (Kd.R_ext HO_13007001.out)) k_ hn_)), Or.elim hk_.1 (fun hs_ => hs_.2.2.2.1) (fun hn_ => (Kd.freshB (blk_ext BK13001.out) k_ hn_)), Or.elim hk_.1 (fun hs_ => hs_.2.2.2.2.1) (fun hn_ => (Kd.freshB (blk_ext BK13002.out) k_ hn_)), Or.elim hk_.1 (fun hs_ => hs_.2.2.2.2.2) (fun hn_ => (Kd.freshB (blk_ext BK13006.out) k_ hn_))⟩)) (below_size (below_extB HB.out)))
                      have n8_ := Aside0.mk (Kd.R_lower (Kd.R_new' (Kd.R_newM (M := fun k_ => (w.heap.size ≤ k_)) (Kd.R_mono (ok' := fun k_ => True) ho1 (fun _ hk_ => trivial)) (below_size (below_extB HB.out)) (fun k_ h_ => h_)) (Kd.R_lt (Kd.R_ext HO_13007001.out))) (below_size (below_extB HB.out)))
                      have n9_ := Aside0.mk (blk_below (blk_ext BK13001.out) hb)
                      have n10_ := Aside0.mk (blk_below (blk_ext BK13002.out) hb)
                      have n11_ := Aside0.mk (blk_below (blk_ext BK13006.out) hb)
                      have n12_ := Aside0.mk (Kd.C_below (by repeat (first | (with_reducible exact HR13008_0.out) | (with_reducible refine Kd.C_alloc ?_ _) | (with_reducible refine Kd.C_drewN ?_ _) | (with_reducible refine Kd.C_drew ?_) | exact HR13008_0.out)) hb)
                      have n13_ := Aside0.mk (below_step (below_extB HB.out) hb)
                      clear HO_0
                      clear HO_13002000
                      clear HO_13002001
                      clear HO_13003001
                      clear HO_13007000
                      clear HO_13007001
                      clear HL13008_0
                      clear BK13001
                      clear BK13002
                      clear BK13006
                      clear HR13008_0
                      clear HB
                      have HO_0 := n0_
                      have HO_13002000 := n1_
                      have HO_13002001 := n2_
                      have HO_13003001 := n3_
                      have HO_13007000 := n4_
                      have HO_13007001 := n5_
                      have HL13008_0 := n6_
                      have HO13011 := n7_
                      have HO13014 := n8_
                      have BK13001 := n9_
                      have BK13002 := n10_
                      have BK13006 := n11_
                      have HR13008_0 := n12_
                      have HB := n13_
                      clear n0_ n1_ n2_ n3_ n4_ n5_ n6_ n7_ n8_ n9_ n10_ n11_ n12_ n13_
                      (try clear hb)
                      (try clear hb2)
                      (try clear hk)
                      (try clear hi)
                      (try clear ho0)
                      (try clear ho1)
                      obtain ⟨Ao52, co52, eo52⟩ := Kd.V_slice HO13011.out
                      (first | subst eo52 | (injection eo52 with f1_ f2_ f3_; have f4_ := f1_.symm; have f5_ := f3_.symm; clear f1_ f2_ f3_; subst f4_; subst f5_))
                      obtain ⟨Ao54, co54, eo54⟩ := Kd.R_slice HO13014.out
                      (first | subst eo54 | (injection eo54 with f1_ f2_ f3_; have f4_ := f1_.symm; have f5_ := f3_.symm; clear f1_ f2_ f3_; subst f4_; subst f5_))
                      refine hK.out _ _ ⟨(blk_cell BK13006.out 0).trans rfl, (blk_cell BK13006.out 1).trans rfl, HS2_⟩ (fun hHeld => ?_)
                      clear hK K
                      refine norm_ (a' := ?_) ?_ ?_
                      rotate_left
                      · show Act.put _ (some 60) _ = _
                        simp only [Act.put, List.setIfInBounds_toArray, List.set_cons_zero, List.set_cons_succ, i64_w, i32_w]
                        rfl
                      refine pure_ (i := 8) (N := some 52) (v := ?_) (a' := ?_) #[true, true, true, true, true, true, true, true, true, false, false, false] rfl rfl (any_of HT_.out (by kernel_rfl)) (fun _ _ _ h => h) (Or.inl ⟨by rfl, ?_⟩) ?_ ?_
                      rotate_left
                      · intro w'
                        go_simp
                        with_reducible rfl
                      rotate_left
                      · simp only [Act.put, List.setIfInBounds_toArray, List.set_cons_zero, List.set_cons_succ, i64_w, i32_w]
                        rfl
                      refine pure_ (i := 9) (N := some 61) (v := ?_) (a' := ?_) #[true, true, true, true, true, true, true, true, true, true, false, false] rfl rfl (any_of HT_.out (by kernel_rfl)) (fun _ _ _ h => h) (Or.inl ⟨by rfl, ?_⟩) ?_ ?_
                      rotate_left
                      · intro w'
                        go_simp
                        with_reducible rfl
                      rotate_left
                      · simp only [Act.put, List.setIfInBounds_toArray, List.set_cons_zero, List.set_cons_succ, i64_w, i32_w]
                        rfl
                      refine pure_ (i := 10) (N := some 62) (v := ?_) (a' := ?_) #[true, true, true, true, true, true, true, true, true, true, true, false] rfl rfl (any_of HT_.out (by kernel_rfl)) (fun _ _ _ h => h) (Or.inl ⟨by rfl, ?_⟩) ?_ ?_
                      rotate_left
                      · intro w'
                        go_simp
                        with_reducible rfl
                      rotate_left
                      · simp only [Act.put, List.setIfInBounds_toArray, List.set_cons_zero, List.set_cons_succ, i64_w, i32_w]
                        rfl
                      refine last_ (i := 11) (N := none) #[true, true, true, true, true, true, true, true, true, true, true, true] rfl rfl (one_of HT_.out (by kernel_rfl)) (by decide) (fun K hK => ?_)
                      have hs53 : w51.cell? ⟨gb13006, 0, none⟩ = some (.slice Ao49 x13007000_1.length co49) := (blk_cell BK13006.out 0).trans rfl
                      have hfs53 := blk_frozen BK13006.out 0
                      have hns53_0 := NB13001_13006.out
                      have hns53_1 := NB13002_13006.out
                      have hms53_0 := NB13006_13001.out
                      have hms53_1 := NB13006_13002.out
                      have hs55 : w51.cell? ⟨gb13006, 1, none⟩ = some (.slice Ao50 x13007001_1.length co50) := (blk_cell BK13006.out 1).trans rfl
                      have hfs55 := blk_frozen BK13006.out 1
                      have hns55_0 := NB13001_13006.out
                      have hns55_1 := NB13002_13006.out
                      have hms55_0 := NB13006_13001.out
                      have hms55_1 := NB13006_13002.out
                      refine skip_ (w1 := ?_) (by rfl) rfl ?_ ?_
                      rotate_left
                      · go_simp
                        rfl
                      refine hK.out _ _ ?_
                      clear hK K
                      refine done_ (done_of HT_.out (by kernel_rfl)) ?_
                      try go_wp2
                      go_roundg kj25
                      case measure => have := HK1.out; have := HJ21.out; have := HJ25.out; omega
                      case rel => exact ⟨(wrap64 (x12_1 + 1)), (t13009), (t13012), (.slice Ao52 t13009.length co52), (.slice Ao54 t13012.length co54), (by first | rfl | (simp; done) | (simp [*]; done)), H', ⟨by have := HK1.out; have := HJ21.out; have := HJ25.out; omega⟩, ⟨Kd.N_ext (Kd.N_mono (Kd.N_far (p := ⟨gb13006, 1, none⟩) (Kd.N_far (p := ⟨gb13006, 0, none⟩) (Kd.N_mono HO_0.out (fun k_ hk => (⟨hk, hk.1.2.2.2.2⟩ : _ ∧ k_ ≠ gb13006))) (fun _ hk => hk.2) (.slice Ao52 t13009.length co52)) (fun _ hk => hk.2) (.slice Ao54 t13012.length co54)) (fun _ hk => ⟨hk.1.1.1, ⟨hk.1.2, ⟨hk.1.1.2.2.1, ⟨hk.1.1.2.2.2.1, hk.1.1.2.2.2.2⟩⟩⟩⟩))⟩, ⟨Kd.V_ext (Kd.V_mono (Kd.V_far (p := ⟨gb13006, 1, none⟩) (Kd.V_far (p := ⟨gb13006, 0, none⟩) (Kd.V_mono HO_13002000.out (fun k_ hk => (⟨hk, hk.1.2.2.2.2.2⟩ : _ ∧ k_ ≠ gb13006))) (fun _ hk => hk.2) (.slice Ao52 t13009.length co52)) (fun _ hk => hk.2) (.slice Ao54 t13012.length co54)) (fun _ hk => ⟨hk.1.1.1, ⟨hk.1.1.2.1, ⟨hk.1.2, ⟨hk.1.1.2.2.2.1, ⟨hk.1.1.2.2.2.2.1, hk.1.1.2.2.2.2.2⟩⟩⟩⟩⟩))⟩, ⟨Kd.V_ext (Kd.V_mono (Kd.V_far (p := ⟨gb13006, 1, none⟩) (Kd.V_far (p := ⟨gb13006, 0, none⟩) (Kd.V_mono HO_13002001.out (fun k_ hk => (⟨hk, hk.1.2.2.2.2.2⟩ : _ ∧ k_ ≠ gb13006))) (fun _ hk => hk.2) (.slice Ao52 t13009.length co52)) (fun _ hk => hk.2) (.slice Ao54 t13012.length co54)) (fun _ hk => ⟨hk.1.1.1, ⟨hk.1.1.2.1, ⟨hk.1.2, ⟨hk.1.1.2.2.2.1, ⟨hk.1.1.2.2.2.2.1, hk.1.1.2.2.2.2.2⟩⟩⟩⟩⟩))⟩, ⟨Kd.V_ext (Kd.V_mono (Kd.V_far (p := ⟨gb13006, 1, none⟩) (Kd.V_far (p := ⟨gb13006, 0, none⟩) (Kd.V_mono HO_13003001.out (fun k_ hk => (⟨hk, hk.1.2.2.2.2.2⟩ : _ ∧ k_ ≠ gb13006))) (fun _ hk => hk.2) (.slice Ao52 t13009.length co52)) (fun _ hk => hk.2) (.slice Ao54 t13012.length co54)) (fun _ hk => ⟨hk.1.1.1, ⟨hk.1.1.2.1, ⟨hk.1.2, ⟨hk.1.1.2.2.2.1, ⟨hk.1.1.2.2.2.2.1, hk.1.1.2.2.2.2.2⟩⟩⟩⟩⟩))⟩, ⟨Kd.V_ext (Kd.V_mono (Kd.V_far (p := ⟨gb13006, 1, none⟩) (Kd.V_far (p := ⟨gb13006, 0, none⟩) (Kd.V_mono HO13011.out (fun k_ hk => (⟨hk, hk.2.2.2.2.2.2⟩ : _ ∧ k_ ≠ gb13006))) (fun _ hk => hk.2) (.slice Ao52 t13009.length co52)) (fun _ hk => hk.2) (.slice Ao54 t13012.length co54)) (fun _ hk => ⟨hk.1.1, ⟨hk.1.2.2.1, ⟨hk.1.2.1, ⟨hk.1.2.2.2.2.1, ⟨hk.1.2.2.2.2.2.1, hk.1.2.2.2.2.2.2⟩⟩⟩⟩⟩))⟩, ⟨Kd.R_ext (Kd.R_mono (Kd.R_far (p := ⟨gb13006, 1, none⟩) (Kd.R_far (p := ⟨gb13006, 0, none⟩) (Kd.R_types HO13014.out BK13006.out (by decide)) (fun _ hk => hk.2) (.slice Ao52 t13009.length co52)) (fun _ hk => hk.2) (.slice Ao54 t13012.length co54)) (fun _ hk => hk.1.1.1))⟩, ⟨by (with_reducible repeat (first | refine blk_drewN ?_ _ | refine blk_drew ?_ | refine blk_alloc ?_ _)); refine blk_far ?_ NB13001_13006.out _; (with_reducible repeat (first | refine blk_drewN ?_ _ | refine blk_drew ?_ | refine blk_alloc ?_ _)); refine blk_far ?_ NB13001_13006.out _; exact blk_ext BK13001.out⟩, ⟨by (with_reducible repeat (first | refine blk_drewN ?_ _ | refine blk_drew ?_ | refine blk_alloc ?_ _)); refine blk_far ?_ NB13002_13006.out _; (with_reducible repeat (first | refine blk_drewN ?_ _ | refine blk_drew ?_ | refine blk_alloc ?_ _)); refine blk_far ?_ NB13002_13006.out _; exact blk_ext BK13002.out⟩, ⟨by (with_reducible repeat (first | refine blk_drewN ?_ _ | refine blk_drew ?_ | refine blk_alloc ?_ _)); refine blk_put (cs := #[.slice Ao52 t13009.length co52, .slice Ao50 x13007001_1.length co50]) ?_ 1 _ rfl; (with_reducible repeat (first | refine blk_drewN ?_ _ | refine blk_drew ?_ | refine blk_alloc ?_ _)); refine blk_put (cs := #[.slice Ao49 x13007000_1.length co49, .slice Ao50 x13007001_1.length co50]) ?_ 0 _ rfl; exact blk_ext BK13006.out⟩, ⟨below_extB HB.out⟩⟩
          · rw [if_neg c21] at H
            have c21b0 : decide (x12_1 < (t13003.length : Int)) = false := decide_eq_false c21
            clear c21
            (first | rw [c21b0] | (simp only [i64_w, i32_w]; rw [c21b0]) | skip)
            have H' := Aside0.mk H
            clear H
            obtain ⟨Ao56, co56, eo56⟩ := Kd.N_slice HO_0.out
            subst eo56
            go_wp2
            go_meet
            case rel => exact ⟨_, (x13007000_1), (x13007001_1), (u13007000), (u13007001), H', ⟨by have := HK1.out; first | omega | exact Nat.le_refl _⟩, ⟨Kd.V_ext (Kd.V_mono HO_13003001.out (fun _ hk => ⟨hk.1, ⟨hk.2.2.2.2.1, hk.2.2.2.2.2⟩⟩))⟩, ⟨Kd.V_ext (Kd.V_mono HO_13007000.out (fun _ hk => ⟨hk.1, ⟨hk.2.2.2.2.1, hk.2.2.2.2.2⟩⟩))⟩, ⟨Kd.V_mono (Kd.R_V (Kd.R_ext (Kd.R_mono (Kd.R_types (Kd.R_types HO_13007001.out BK13002.out (by decide)) BK13006.out (by decide)) (fun _ hk => (And.intro (hk.1.1) (And.intro (hk.1.2) (hk.2))))))) (fun k_ hk => by first | exact ⟨(.inr (hk.1)), hk.2⟩ | exact (.inr (hk)))⟩, ⟨blk_ext BK13002.out⟩, ⟨blk_ext BK13006.out⟩, ⟨below_extB HB.out⟩⟩
  case rest =>
    clear HC7
    try clear c1
    try clear p1
    try clear q1
    try clear hx1
    try clear c2
    try clear p2
    try clear c3
    try clear c4
    try clear c5
    try clear p6
    try clear c11
    try clear c13
    try clear p13
    try clear q13
    try clear hx13
    try clear c14
    try clear c15
    try clear c17
    try clear c18
    try clear c19
    try clear c20
    try clear c21
    try clear c21b0
    try clear c24
    try clear c24b0
    try clear c25
    try clear c25b0
    try clear c27
    try clear c28
    try clear c28b0
    try clear c29
    try clear c29b0
    try clear c31
    try clear c31b0
    try clear c31b1
    try clear c41
    try clear c42
    try clear hcz12_0
    try clear hcz12_1
    try clear hcz16_0
    try clear hcz16_1
    try clear hcz20_0
    try clear hcz20_1
    try clear hcz43_0
    try clear hcz43_1
    try clear hcz46_0
    try clear hcz46_1
    try clear hfz12_0
    try clear hfz12_1
    try clear hfz16_0
    try clear hfz16_1
    try clear hfz20_0
    try clear hfz20_1
    try clear hfz43_0
    try clear hfz43_1
    try clear hfz46_0
    try clear hfz46_1
    try clear hx13007_0
    try clear hx13008_0
    try clear p1
    try clear p13
    try clear p13007
    try clear p13008
    try clear p2
    try clear q1
    try clear q13
    try clear q13007
    try clear q13008
    obtain ⟨kq, x13007000_6, x13007001_6, u13007000, u13007001, HA, HJ6, HO_13003001, HO_13007000, HO_13007001, BK13002, BK13006, HB⟩ := hcut
    cases kq with
    | zero => exact absurd HA.out (by simp [customslaw34_JournalOpen.j3])
    | succ kj6 =>
      have H := HA.out
      clear HA
      simp only [customslaw34_JournalOpen.j3] at H
      replace H := Option.bind_eq_some_iff.mp H
      obtain ⟨⟨t13022, t13025, t13028⟩, A570, H⟩ := H
      try dsimp only at H
      have A57 := Aside0.mk A570
      clear A570
      replace H := Option.bind_eq_some_iff.mp H
      obtain ⟨⟨t13030, t13033, t13036⟩, A580, H⟩ := H
      try dsimp only at H
      have A58 := Aside0.mk A580
      clear A580
      replace H := Option.bind_eq_some_iff.mp H
      obtain ⟨⟨t13038, t13041, t13044⟩, A590, H⟩ := H
      try dsimp only at H
      have A59 := Aside0.mk A590
      clear A590
      replace H := Option.bind_eq_some_iff.mp H
      obtain ⟨⟨t13046, t13049, t13052⟩, A600, H⟩ := H
      try dsimp only at H
      have A60 := Aside0.mk A600
      clear A600
      have HC61 := Aside0.mk H
      clear H
      have hnb62 := NB13006_13002.out
      have hnc62 := NB13002_13006.out
      have hcz63_0 : wc.cell? ⟨gb13006, 0, none⟩ = some (u13007000) := (blk_cell BK13006.out 0).trans rfl
      have hcz63_1 : wc.cell? ⟨gb13006, 1, none⟩ = some (u13007001) := (blk_cell BK13006.out 1).trans rfl
      have hfz63_0 := blk_frozen BK13006.out 0
      have hfz63_1 := blk_frozen BK13006.out 1
      have hcz64_0 : wc.cell? ⟨gb13002, 0, none⟩ = some (.int .i64 a3_0) := (blk_cell BK13002.out 0).trans rfl
      have hcz64_1 : wc.cell? ⟨gb13002, 1, none⟩ = some (.slice A3_1 l3_1.length c3_1) := (blk_cell BK13002.out 1).trans rfl
      have hfz64_0 := blk_frozen BK13002.out 0
      have hfz64_1 := blk_frozen BK13002.out 1
      obtain ⟨Ao65, co65, eo65⟩ := Kd.V_slice HO_13007000.out
      subst eo65
      obtain ⟨Ao66, co66, eo66⟩ := Kd.V_slice HO_13007001.out
      subst eo66
      go_upto_region 18 with (first | ((with_reducible refine gate_callee (f := 58) rfl ?_); refine goesL_ (some 71) rfl rfl Try.func58 (by kernel_rfl) rfl #[.agg #[.slice Ao65 x13007000_6.length co65, .slice Ao66 x13007001_6.length co66], .agg #[.int .i64 a3_0, .slice A3_1 l3_1.length c3_1]] rfl (by (try simp only [List.map_toArray, List.map_cons, List.map_nil]); first | done | rfl | (simp only [List.length_drop, List.length_take]; rfl)) ?_; (with_reducible refine (journal_Put.calls kj6 _ _ x13007000_6 _ _ x13007001_6 a3_0 _ _ l3_1 t13022 t13025 t13028 _ ?side1 ?side2 ?side3 ?side4 ?side5 ?side6 A57.out).mono ?_); (case side1 => exact Kd.C_ext (Kd.V_reads' HO_13007000.out).2.2); (case side2 => exact (Kd.V_reads' HO_13007000.out).2.1); (case side3 => exact Kd.C_ext (Kd.V_reads' HO_13007001.out).2.2); (case side4 => exact (Kd.V_reads' HO_13007001.out).2.1); (case side5 => exact Kd.C_ext (Kd.V_reads' HO_13003001.out).2.2); (case side6 => exact (Kd.V_reads' HO_13003001.out).2.1); rintro e w67 ⟨v13023, v13026, rfl, ho0, ho1, hb⟩; refine ⟨_, rfl, ?_⟩; have n0_ := Aside0.mk (Kd.V_mono (Kd.V_told (Kd.V_told (Kd.V_old (Kd.V_ext HO_13003001.out) hb) (Kd.R_base ho0)) (Kd.R_base ho1)) (fun _ h_ => h_.1)); have n1_ := Aside0.mk (Kd.V_mono (Kd.V_told (Kd.V_told (Kd.V_old (Kd.V_ext HO_13007000.out) hb) (Kd.R_base ho0)) (Kd.R_base ho1)) (fun _ h_ => h_.1)); have n2_ := Aside0.mk (Kd.V_mono (Kd.V_told (Kd.V_told (Kd.V_old (Kd.V_ext HO_13007001.out) hb) (Kd.R_base ho0)) (Kd.R_base ho1)) (fun _ h_ => h_.1)); have n3_ := Aside0.mk (Kd.R_lower (Kd.R_newM (M := fun k_ => (w.heap.size ≤ k_)) ho0 (below_size (below_extB HB.out)) (fun k_ h_ => h_)) (below_size (below_extB HB.out))); have n4_ := Aside0.mk (Kd.R_lower (Kd.R_newM (M := fun k_ => (w.heap.size ≤ k_)) ho1 (below_size (below_extB HB.out)) (fun k_ h_ => h_)) (below_size (below_extB HB.out))); have n5_ := Aside0.mk (blk_below (blk_ext BK13002.out) hb); have n6_ := Aside0.mk (blk_below (blk_ext BK13006.out) hb); have n7_ := Aside0.mk (below_step (below_extB HB.out) hb); clear HO_13003001; clear HO_13007000; clear HO_13007001; clear BK13002; clear BK13006; clear HB; have HO_13003001 := n0_; have HO_13007000 := n1_; have HO_13007001 := n2_; have HO13024 := n3_; have HO13027 := n4_; have BK13002 := n5_; have BK13006 := n6_; have HB := n7_; clear n0_ n1_ n2_ n3_ n4_ n5_ n6_ n7_; (try clear hb); (try clear hb2); (try clear hk); (try clear hi); (try clear ho0); (try clear ho1)) | ((with_reducible refine gate_dst (N := 14) rfl ?_); refine box_event ?hg (N := 14) ?hd (cs := #[.slice none 0 0, .slice none 0 0]) (t := 24) ?hr ?_; (case hd => rfl); (case hg => rfl); (case hr => first | (go_simp; done) | (go_simp; rfl)); intro gb13029 hg w68 hbox hb; have n0_ := Aside0.mk (Kd.V_below (Kd.V_elderB (Kd.V_ext HO_13003001.out) gb13029 (Nat.le_of_eq hg.symm)) hb); have n1_ := Aside0.mk (Kd.V_below (Kd.V_elderB (Kd.V_ext HO_13007000.out) gb13029 (Nat.le_of_eq hg.symm)) hb); have n2_ := Aside0.mk (Kd.V_below (Kd.V_elderB (Kd.V_ext HO_13007001.out) gb13029 (Nat.le_of_eq hg.symm)) hb); have n3_ := Aside0.mk (Kd.R_below (Kd.R_ext HO13024.out) hb); have n4_ := Aside0.mk (Kd.R_below (Kd.R_ext HO13027.out) hb); have n5_ := Aside0.mk (blk_below (blk_ext BK13002.out) hb); have n6_ := Aside0.mk (blk_below (blk_ext BK13006.out) hb); have n7_ := Aside0.mk (below_step (below_extB HB.out) hb); have n8_ := Aside0.mk (hbox); have n9_ := Aside0.mk ((by rw [hg]; exact (below_size (below_extB HB.out)) : w.heap.size ≤ gb13029)); have n10_ := Aside0.mk ((by rw [hg]; exact (below_size (below_extB HB.out)) : w.heap.size ≤ gb13029)); have n11_ := Aside0.mk ((by rw [hg]; exact Nat.ne_of_lt (blk_lt (blk_ext BK13002.out)) : gb13002 ≠ gb13029)); have n12_ := Aside0.mk ((by rw [hg]; exact Nat.ne_of_gt (blk_lt (blk_ext BK13002.out)) : gb13029 ≠ gb13002)); have n13_ := Aside0.mk ((by rw [hg]; exact Nat.ne_of_lt (blk_lt (blk_ext BK13006.out)) : gb13006 ≠ gb13029)); have n14_ := Aside0.mk ((by rw [hg]; exact Nat.ne_of_gt (blk_lt (blk_ext BK13006.out)) : gb13029 ≠ gb13006)); clear HO_13003001; clear HO_13007000; clear HO_13007001; clear HO13024; clear HO13027; clear BK13002; clear BK13006; clear HB; have HO_13003001 := n0_; have HO_13007000 := n1_; have HO_13007001 := n2_; have HO13024 := n3_; have HO13027 := n4_; have BK13002 := n5_; have BK13006 := n6_; have HB := n7_; have BK13029 := n8_; have GW13029 := n9_; have GE13029 := n10_; have GI13029 := GE_.mk GE13029.out; have NB13002_13029 := n11_; have NB13029_13002 := n12_; have NB13006_13029 := n13_; have NB13029_13006 := n14_; clear n0_ n1_ n2_ n3_ n4_ n5_ n6_ n7_ n8_ n9_ n10_ n11_ n12_ n13_ n14_; clear hb hbox hg; obtain ⟨Ao69, co69, eo69⟩ := Kd.R_slice HO13024.out; subst eo69; have hnb70 := NB13029_13002.out; have hnc70 := NB13002_13029.out; have hnb71 := NB13029_13006.out; have hnc71 := NB13006_13029.out; have hcz72_0 : w68.cell? ⟨gb13029, 0, none⟩ = some (.slice none 0 0) := (blk_cell BK13029.out 0).trans rfl; have hcz72_1 : w68.cell? ⟨gb13029, 1, none⟩ = some (.slice none 0 0) := (blk_cell BK13029.out 1).trans rfl; have hfz72_0 := blk_frozen BK13029.out 0; have hfz72_1 := blk_frozen BK13029.out 1; obtain ⟨Ao73, co73, eo73⟩ := Kd.R_slice HO13027.out; subst eo73) | ((with_reducible refine gate_store (t := 24) (p := 14) rfl ?_); refine store_event (t := 24) (p := 14) (v := ?vo_w74) (w1 := ((w68.setCell ⟨gb13029, 0, none⟩ (.slice Ao69 t13022.length co69)).setCell ⟨gb13029, 1, none⟩ (.slice Ao73 t13025.length co73))) ?hg ?ho ?hn ?hr ?_; (case ho => rfl); (case hg => rfl); (case hn => rfl); (case hr => first | (go_simp; done) | (go_simp; rfl)); intro w74 hw; have n0_ : Aside0 (Kd.V (Kd.int .u8) 5 w74 w.heap.size (fun k_ => ((P0_ k_ ∨ P2_0_ k_ ∨ P2_1_ k_ ∨ P3_1_ k_) ∨ w.heap.size ≤ k_) ∧ some k_ ≠ (.slice Ao69 t13022.length co69 : Value).ownBlock ∧ some k_ ≠ (.slice Ao73 t13025.length co73 : Value).ownBlock ∧ k_ ≠ gb13002 ∧ k_ ≠ gb13006 ∧ k_ ≠ gb13029) (.slice A3_1 l3_1.length c3_1) l3_1) := ⟨(by rw [hw]; exact (Kd.V_ext (Kd.V_mono (Kd.V_far (p := ⟨gb13029, 1, none⟩) (Kd.V_far (p := ⟨gb13029, 0, none⟩) (Kd.V_mono HO_13003001.out (fun k_ hk => (⟨hk, hk.2⟩ : _ ∧ k_ ≠ gb13029))) (fun _ hk => hk.2) (.slice Ao69 t13022.length co69)) (fun _ hk => hk.2) (.slice Ao73 t13025.length co73)) (fun _ hk => ⟨hk.1.1.1.1.1, ⟨hk.1.1.1.2, ⟨hk.1.1.2, ⟨hk.1.1.1.1.2.1, ⟨hk.1.1.1.1.2.2, hk.1.2⟩⟩⟩⟩⟩))))⟩; have n1_ : Aside0 (Kd.V (Kd.int .u8) 5 w74 w.heap.size (fun k_ => ((P0_ k_ ∨ P2_0_ k_ ∨ P2_1_ k_ ∨ P3_1_ k_) ∨ w.heap.size ≤ k_) ∧ some k_ ≠ (.slice Ao69 t13022.length co69 : Value).ownBlock ∧ some k_ ≠ (.slice Ao73 t13025.length co73 : Value).ownBlock ∧ k_ ≠ gb13002 ∧ k_ ≠ gb13006 ∧ k_ ≠ gb13029) (.slice Ao65 x13007000_6.length co65) x13007000_6) := ⟨(by rw [hw]; exact (Kd.V_ext (Kd.V_mono (Kd.V_far (p := ⟨gb13029, 1, none⟩) (Kd.V_far (p := ⟨gb13029, 0, none⟩) (Kd.V_mono HO_13007000.out (fun k_ hk => (⟨hk, hk.2⟩ : _ ∧ k_ ≠ gb13029))) (fun _ hk => hk.2) (.slice Ao69 t13022.length co69)) (fun _ hk => hk.2) (.slice Ao73 t13025.length co73)) (fun _ hk => ⟨hk.1.1.1.1.1, ⟨hk.1.1.1.2, ⟨hk.1.1.2, ⟨hk.1.1.1.1.2.1, ⟨hk.1.1.1.1.2.2, hk.1.2⟩⟩⟩⟩⟩))))⟩; have n2_ : Aside0 (Kd.V (Kd.int .u8) 5 w74 w.heap.size (fun k_ => ((P0_ k_ ∨ P2_0_ k_ ∨ P2_1_ k_ ∨ P3_1_ k_) ∨ w.heap.size ≤ k_) ∧ some k_ ≠ (.slice Ao69 t13022.length co69 : Value).ownBlock ∧ some k_ ≠ (.slice Ao73 t13025.length co73 : Value).ownBlock ∧ k_ ≠ gb13002 ∧ k_ ≠ gb13006 ∧ k_ ≠ gb13029) (.slice Ao66 x13007001_6.length co66) x13007001_6) := ⟨(by rw [hw]; exact (Kd.V_ext (Kd.V_mono (Kd.V_far (p := ⟨gb13029, 1, none⟩) (Kd.V_far (p := ⟨gb13029, 0, none⟩) (Kd.V_mono HO_13007001.out (fun k_ hk => (⟨hk, hk.2⟩ : _ ∧ k_ ≠ gb13029))) (fun _ hk => hk.2) (.slice Ao69 t13022.length co69)) (fun _ hk => hk.2) (.slice Ao73 t13025.length co73)) (fun _ hk => ⟨hk.1.1.1.1.1, ⟨hk.1.1.1.2, ⟨hk.1.1.2, ⟨hk.1.1.1.1.2.1, ⟨hk.1.1.1.1.2.2, hk.1.2⟩⟩⟩⟩⟩))))⟩; have n3_ : Aside0 (Kd.R (Kd.int .u8) 5 w74 w.heap.size (fun k_ => (w.heap.size ≤ k_) ∧ some k_ ≠ (.slice Ao73 t13025.length co73 : Value).ownBlock) (.slice Ao69 t13022.length co69) t13022) := ⟨(by rw [hw]; exact (Kd.R_ext (Kd.R_mono (Kd.R_far (p := ⟨gb13029, 1, none⟩) (Kd.R_far (p := ⟨gb13029, 0, none⟩) (Kd.R_types HO13024.out BK13029.out (by decide)) (fun _ hk => hk.2) (.slice Ao69 t13022.length co69)) (fun _ hk => hk.2) (.slice Ao73 t13025.length co73)) (fun _ hk => ⟨hk.1.1, hk.1.2⟩))))⟩; have n4_ : Aside0 (Kd.R (Kd.int .u8) 5 w74 w.heap.size (fun k_ => (w.heap.size ≤ k_) ∧ some k_ ≠ (.slice Ao69 t13022.length co69 : Value).ownBlock) (.slice Ao73 t13025.length co73) t13025) := ⟨(by rw [hw]; exact (Kd.R_ext (Kd.R_mono (Kd.R_far (p := ⟨gb13029, 1, none⟩) (Kd.R_far (p := ⟨gb13029, 0, none⟩) (Kd.R_types HO13027.out BK13029.out (by decide)) (fun _ hk => hk.2) (.slice Ao69 t13022.length co69)) (fun _ hk => hk.2) (.slice Ao73 t13025.length co73)) (fun _ hk => ⟨hk.1.1, hk.1.2⟩))))⟩; have n5_ : Aside0 (w74.heap[gb13002]? = some (.cells #[.int .i64 a3_0, .slice A3_1 l3_1.length c3_1] 57 (0, 0))) := ⟨(by rw [hw]; exact (by (with_reducible repeat (first | refine blk_drewN ?_ _ | refine blk_drew ?_ | refine blk_alloc ?_ _)); refine blk_far ?_ NB13002_13029.out _; (with_reducible repeat (first | refine blk_drewN ?_ _ | refine blk_drew ?_ | refine blk_alloc ?_ _)); refine blk_far ?_ NB13002_13029.out _; exact blk_ext BK13002.out))⟩; have n6_ : Aside0 (w74.heap[gb13006]? = some (.cells #[.slice Ao65 x13007000_6.length co65, .slice Ao66 x13007001_6.length co66] 24 (0, 0))) := ⟨(by rw [hw]; exact (by (with_reducible repeat (first | refine blk_drewN ?_ _ | refine blk_drew ?_ | refine blk_alloc ?_ _)); refine blk_far ?_ NB13006_13029.out _; (with_reducible repeat (first | refine blk_drewN ?_ _ | refine blk_drew ?_ | refine blk_alloc ?_ _)); refine blk_far ?_ NB13006_13029.out _; exact blk_ext BK13006.out))⟩; have n7_ : Aside0 (w74.heap[gb13029]? = some (.cells #[.slice Ao69 t13022.length co69, .slice Ao73 t13025.length co73] 24 (0, 0))) := ⟨(by rw [hw]; exact (by (with_reducible repeat (first | refine blk_drewN ?_ _ | refine blk_drew ?_ | refine blk_alloc ?_ _)); refine blk_put (cs := #[.slice Ao69 t13022.length co69, .slice none 0 0]) ?_ 1 _ rfl; (with_reducible repeat (first | refine blk_drewN ?_ _ | refine blk_drew ?_ | refine blk_alloc ?_ _)); refine blk_put (cs := #[.slice none 0 0, .slice none 0 0]) ?_ 0 _ rfl; exact blk_ext BK13029.out))⟩; have n8_ : Aside0 (Below w.heap.size w w74) := ⟨(by rw [hw]; exact (below_extB HB.out))⟩; clear hw; clear HO_13003001; clear HO_13007000; clear HO_13007001; clear HO13024; clear HO13027; clear BK13002; clear BK13006; clear BK13029; clear HB; have HO_13003001 := n0_; have HO_13007000 := n1_; have HO_13007001 := n2_; have HO13024 := n3_; have HO13027 := n4_; have BK13002 := n5_; have BK13006 := n6_; have BK13029 := n7_; have HB := n8_; clear n0_ n1_ n2_ n3_ n4_ n5_ n6_ n7_ n8_; have hcz75_0 : w74.cell? ⟨gb13006, 0, none⟩ = some (.slice Ao65 x13007000_6.length co65) := (blk_cell BK13006.out 0).trans rfl; have hcz75_1 : w74.cell? ⟨gb13006, 1, none⟩ = some (.slice Ao66 x13007001_6.length co66) := (blk_cell BK13006.out 1).trans rfl; have hfz75_0 := blk_frozen BK13006.out 0; have hfz75_1 := blk_frozen BK13006.out 1; have hcz76_0 : w74.cell? ⟨gb13002, 0, none⟩ = some (.int .i64 a3_0) := (blk_cell BK13002.out 0).trans rfl; have hcz76_1 : w74.cell? ⟨gb13002, 1, none⟩ = some (.slice A3_1 l3_1.length c3_1) := (blk_cell BK13002.out 1).trans rfl; have hfz76_0 := blk_frozen BK13002.out 0; have hfz76_1 := blk_frozen BK13002.out 1) | ((with_reducible refine gate_callee (f := 57) rfl ?_); refine goesL_ (some 77) rfl rfl Try.func57 (by kernel_rfl) rfl #[.agg #[.slice Ao65 x13007000_6.length co65, .slice Ao66 x13007001_6.length co66], .agg #[.int .i64 a3_0, .slice A3_1 l3_1.length c3_1]] rfl (by (try simp only [List.map_toArray, List.map_cons, List.map_nil]); first | done | rfl | (simp only [List.length_drop, List.length_take]; rfl)) ?_; (with_reducible refine (customsref33_Put.calls kj6 (fun k_ => (((P0_ k_ ∨ P2_0_ k_ ∨ P2_1_ k_ ∨ P3_1_ k_) ∨ w.heap.size ≤ k_) ∧ (some k_ ≠ (.slice Ao69 t13022.length co69 : Value).ownBlock ∧ (some k_ ≠ (.slice Ao73 t13025.length co73 : Value).ownBlock ∧ (k_ ≠ gb13002 ∧ (k_ ≠ gb13006 ∧ k_ ≠ gb13029)))))) _ _ x13007000_6 _ _ x13007001_6 a3_0 _ _ l3_1 t13030 t13033 t13036 _ ?side1 ?side2 ?side3 ?side4 ?side5 A58.out).mono ?_); (case side1 => exact HO_13007000.out); (case side2 => exact Kd.C_ext (Kd.V_reads' HO_13007001.out).2.2); (case side3 => exact (Kd.V_reads' HO_13007001.out).2.1); (case side4 => exact Kd.C_ext (Kd.V_reads' HO_13003001.out).2.2); (case side5 => exact (Kd.V_reads' HO_13003001.out).2.1); rintro e w77 ⟨v13031, v13034, rfl, ho0, ho1, hb⟩; refine ⟨_, rfl, ?_⟩; have n0_ := Aside0.mk (Kd.V_elder' (Kd.V_ext HO_13003001.out) (Kd.R_base ho1) hb); have n1_ := Aside0.mk (Kd.V_elder' (Kd.V_ext HO_13007000.out) (Kd.R_base ho1) hb); have n2_ := Aside0.mk (Kd.V_elder' (Kd.V_ext HO_13007001.out) (Kd.R_base ho1) hb); have n3_ := Aside0.mk (Kd.R_elder' (Kd.R_ext HO13024.out) (Kd.R_base ho1) hb); have n4_ := Aside0.mk (Kd.R_elder' (Kd.R_ext HO13027.out) (Kd.R_base ho1) hb); have n5_ := Aside0.mk (Kd.V_lower (Kd.V_mono (ok' := fun k_ => ((P0_ k_ ∨ P2_0_ k_ ∨ P2_1_ k_ ∨ P3_1_ k_) ∨ w.heap.size ≤ k_) ∧ some k_ ≠ (v13034 : Value).ownBlock ∧ some k_ ≠ (.slice Ao69 t13022.length co69 : Value).ownBlock ∧ some k_ ≠ (.slice Ao73 t13025.length co73 : Value).ownBlock ∧ k_ ≠ gb13002 ∧ k_ ≠ gb13006 ∧ k_ ≠ gb13029) ho0 (fun k_ hk_ => ⟨Or.elim hk_.1 (fun hs_ => hs_.1) (fun hn_ => (.inr (Nat.le_trans (below_size (below_extB HB.out)) hn_))), hk_.2, Or.elim hk_.1 (fun hs_ => hs_.2.1) (fun hn_ => (Kd.fresh' (Kd.R_lt (Kd.R_ext HO13024.out)) k_ hn_)), Or.elim hk_.1 (fun hs_ => hs_.2.2.1) (fun hn_ => (Kd.fresh' (Kd.R_lt (Kd.R_ext HO13027.out)) k_ hn_)), Or.elim hk_.1 (fun hs_ => hs_.2.2.2.1) (fun hn_ => (Kd.freshB (blk_ext BK13002.out) k_ hn_)), Or.elim hk_.1 (fun hs_ => hs_.2.2.2.2.1) (fun hn_ => (Kd.freshB (blk_ext BK13006.out) k_ hn_)), Or.elim hk_.1 (fun hs_ => hs_.2.2.2.2.2) (fun hn_ => (Kd.freshB (blk_ext BK13029.out) k_ hn_))⟩)) (below_size (below_extB HB.out))); have n6_ := Aside0.mk (Kd.R_lower (Kd.R_new' (Kd.R_new' (Kd.R_newM (M := fun k_ => (w.heap.size ≤ k_)) (Kd.R_mono (ok' := fun k_ => True) ho1 (fun _ hk_ => trivial)) (below_size (below_extB HB.out)) (fun k_ h_ => h_)) (Kd.R_lt (Kd.R_ext HO13024.out))) (Kd.R_lt (Kd.R_ext HO13027.out))) (below_size (below_extB HB.out))); have n7_ := Aside0.mk (blk_below (blk_ext BK13002.out) hb); have n8_ := Aside0.mk (blk_below (blk_ext BK13006.out) hb); have n9_ := Aside0.mk (blk_below (blk_ext BK13029.out) hb); have n10_ := Aside0.mk (below_step (below_extB HB.out) hb); clear HO_13003001; clear HO_13007000; clear HO_13007001; clear HO13024; clear HO13027; clear BK13002; clear BK13006; clear BK13029; clear HB; have HO_13003001 := n0_; have HO_13007000 := n1_; have HO_13007001 := n2_; have HO13024 := n3_; have HO13027 := n4_; have HO13032 := n5_; have HO13035 := n6_; have BK13002 := n7_; have BK13006 := n8_; have BK13029 := n9_; have HB := n10_; clear n0_ n1_ n2_ n3_ n4_ n5_ n6_ n7_ n8_ n9_ n10_; (try clear hb); (try clear hb2); (try clear hk); (try clear hi); (try clear ho0); (try clear ho1)) | ((with_reducible refine gate_dst (N := 16) rfl ?_); refine box_event ?hg (N := 16) ?hd (cs := #[.slice none 0 0, .slice none 0 0]) (t := 24) ?hr ?_; (case hd => rfl); (case hg => rfl); (case hr => first | (go_simp; done) | (go_simp; rfl)); intro gb13037 hg w78 hbox hb; have n0_ := Aside0.mk (Kd.V_below (Kd.V_elderB (Kd.V_ext HO_13003001.out) gb13037 (Nat.le_of_eq hg.symm)) hb); have n1_ := Aside0.mk (Kd.V_below (Kd.V_elderB (Kd.V_ext HO_13007000.out) gb13037 (Nat.le_of_eq hg.symm)) hb); have n2_ := Aside0.mk (Kd.V_below (Kd.V_elderB (Kd.V_ext HO_13007001.out) gb13037 (Nat.le_of_eq hg.symm)) hb); have n3_ := Aside0.mk (Kd.R_below (Kd.R_ext HO13024.out) hb); have n4_ := Aside0.mk (Kd.R_below (Kd.R_ext HO13027.out) hb); have n5_ := Aside0.mk (Kd.V_below (Kd.V_elderB (Kd.V_ext HO13032.out) gb13037 (Nat.le_of_eq hg.symm)) hb); have n6_ := Aside0.mk (Kd.R_below (Kd.R_ext HO13035.out) hb); have n7_ := Aside0.mk (blk_below (blk_ext BK13002.out) hb); have n8_ := Aside0.mk (blk_below (blk_ext BK13006.out) hb); have n9_ := Aside0.mk (blk_below (blk_ext BK13029.out) hb); have n10_ := Aside0.mk (below_step (below_extB HB.out) hb); have n11_ := Aside0.mk (hbox); have n12_ := Aside0.mk ((by rw [hg]; exact (below_size (below_extB HB.out)) : w.heap.size ≤ gb13037)); have n13_ := Aside0.mk ((by rw [hg]; exact (below_size (below_extB HB.out)) : w.heap.size ≤ gb13037)); have n14_ := Aside0.mk ((by rw [hg]; exact Nat.ne_of_lt (blk_lt (blk_ext BK13002.out)) : gb13002 ≠ gb13037)); have n15_ := Aside0.mk ((by rw [hg]; exact Nat.ne_of_gt (blk_lt (blk_ext BK13002.out)) : gb13037 ≠ gb13002)); have n16_ := Aside0.mk ((by rw [hg]; exact Nat.ne_of_lt (blk_lt (blk_ext BK13006.out)) : gb13006 ≠ gb13037)); have n17_ := Aside0.mk ((by rw [hg]; exact Nat.ne_of_gt (blk_lt (blk_ext BK13006.out)) : gb13037 ≠ gb13006)); have n18_ := Aside0.mk ((by rw [hg]; exact Nat.ne_of_lt (blk_lt (blk_ext BK13029.out)) : gb13029 ≠ gb13037)); have n19_ := Aside0.mk ((by rw [hg]; exact Nat.ne_of_gt (blk_lt (blk_ext BK13029.out)) : gb13037 ≠ gb13029)); clear HO_13003001; clear HO_13007000; clear HO_13007001; clear HO13024; clear HO13027; clear HO13032; clear HO13035; clear BK13002; clear BK13006; clear BK13029; clear HB; have HO_13003001 := n0_; have HO_13007000 := n1_; have HO_13007001 := n2_; have HO13024 := n3_; have HO13027 := n4_; have HO13032 := n5_; have HO13035 := n6_; have BK13002 := n7_; have BK13006 := n8_; have BK13029 := n9_; have HB := n10_; have BK13037 := n11_; have GW13037 := n12_; have GE13037 := n13_; have GI13037 := GE_.mk GE13037.out; have NB13002_13037 := n14_; have NB13037_13002 := n15_; have NB13006_13037 := n16_; have NB13037_13006 := n17_; have NB13029_13037 := n18_; have NB13037_13029 := n19_; clear n0_ n1_ n2_ n3_ n4_ n5_ n6_ n7_ n8_ n9_ n10_ n11_ n12_ n13_ n14_ n15_ n16_ n17_ n18_ n19_; clear hb hbox hg; obtain ⟨Ao79, co79, eo79⟩ := Kd.V_slice HO13032.out; subst eo79; have hnb80 := NB13037_13002.out; have hnc80 := NB13002_13037.out; have hnb81 := NB13037_13006.out; have hnc81 := NB13006_13037.out; have hnb82 := NB13037_13029.out; have hnc82 := NB13029_13037.out; have hcz83_0 : w78.cell? ⟨gb13037, 0, none⟩ = some (.slice none 0 0) := (blk_cell BK13037.out 0).trans rfl; have hcz83_1 : w78.cell? ⟨gb13037, 1, none⟩ = some (.slice none 0 0) := (blk_cell BK13037.out 1).trans rfl; have hfz83_0 := blk_frozen BK13037.out 0; have hfz83_1 := blk_frozen BK13037.out 1; obtain ⟨Ao84, co84, eo84⟩ := Kd.R_slice HO13035.out; subst eo84; have hcz85_0 : w78.cell? ⟨gb13006, 0, none⟩ = some (.slice Ao65 x13007000_6.length co65) := (blk_cell BK13006.out 0).trans rfl; have hcz85_1 : w78.cell? ⟨gb13006, 1, none⟩ = some (.slice Ao66 x13007001_6.length co66) := (blk_cell BK13006.out 1).trans rfl; have hfz85_0 := blk_frozen BK13006.out 0; have hfz85_1 := blk_frozen BK13006.out 1; have hcz86_0 : w78.cell? ⟨gb13002, 0, none⟩ = some (.int .i64 a3_0) := (blk_cell BK13002.out 0).trans rfl; have hcz86_1 : w78.cell? ⟨gb13002, 1, none⟩ = some (.slice A3_1 l3_1.length c3_1) := (blk_cell BK13002.out 1).trans rfl; have hfz86_0 := blk_frozen BK13002.out 0; have hfz86_1 := blk_frozen BK13002.out 1) | ((with_reducible refine gate_callee (f := 59) rfl ?_); refine goesL_ (some 84) rfl rfl Try.func59 (by kernel_rfl) rfl #[.agg #[.slice Ao65 x13007000_6.length co65, .slice Ao66 x13007001_6.length co66], .slice A3_1 l3_1.length c3_1] rfl (by (try simp only [List.map_toArray, List.map_cons, List.map_nil]); first | done | rfl | (simp only [List.length_drop, List.length_take]; rfl)) ?_; (with_reducible refine (journal_Append.calls kj6 _ _ x13007000_6 _ _ x13007001_6 _ _ l3_1 t13038 t13041 t13044 _ ?side1 ?side2 ?side3 ?side4 ?side5 ?side6 A59.out).mono ?_); (case side1 => refine (Kd.V_reads' (e := 5) (base := w.heap.size) (ok := fun k_ => ((((((P0_ k_ ∨ P2_0_ k_ ∨ P2_1_ k_ ∨ P3_1_ k_) ∨ w.heap.size ≤ k_)) ∧ (some k_ ≠ (.slice Ao69 t13022.length co69 : Value).ownBlock ∧ (some k_ ≠ (.slice Ao73 t13025.length co73 : Value).ownBlock ∧ (k_ ≠ gb13002 ∧ (k_ ≠ gb13006 ∧ k_ ≠ gb13029))))) ∧ some k_ ≠ (.slice Ao84 t13033.length co84 : Value).ownBlock) ∧ k_ ≠ gb13037)) (n := x13007000_6.length) (c := co65) ?_).2.2; exact (Kd.V_ext ((Kd.V_mono (Kd.V_far (p := ⟨gb13037, 1, none⟩) (Kd.V_far (p := ⟨gb13037, 0, none⟩) (Kd.V_mono HO_13007000.out (fun k_ hk => (⟨hk, hk.2⟩ : _ ∧ k_ ≠ gb13037))) (fun _ hk => hk.2) (.slice Ao79 t13030.length co79)) (fun _ hk => hk.2) (.slice Ao84 t13033.length co84)) (fun _ h_ => h_.1))))); (case side2 => exact (Kd.V_reads' HO_13007000.out).2.1); (case side3 => refine (Kd.V_reads' (e := 5) (base := w.heap.size) (ok := fun k_ => ((((((P0_ k_ ∨ P2_0_ k_ ∨ P2_1_ k_ ∨ P3_1_ k_) ∨ w.heap.size ≤ k_)) ∧ (some k_ ≠ (.slice Ao69 t13022.length co69 : Value).ownBlock ∧ (some k_ ≠ (.slice Ao73 t13025.length co73 : Value).ownBlock ∧ (k_ ≠ gb13002 ∧ (k_ ≠ gb13006 ∧ k_ ≠ gb13029))))) ∧ some k_ ≠ (.slice Ao84 t13033.length co84 : Value).ownBlock) ∧ k_ ≠ gb13037)) (n := x13007001_6.length) (c := co66) ?_).2.2; exact (Kd.V_ext ((Kd.V_mono (Kd.V_far (p := ⟨gb13037, 1, none⟩) (Kd.V_far (p := ⟨gb13037, 0, none⟩) (Kd.V_mono HO_13007001.out (fun k_ hk => (⟨hk, hk.2⟩ : _ ∧ k_ ≠ gb13037))) (fun _ hk => hk.2) (.slice Ao79 t13030.length co79)) (fun _ hk => hk.2) (.slice Ao84 t13033.length co84)) (fun _ h_ => h_.1))))); (case side4 => exact (Kd.V_reads' HO_13007001.out).2.1); (case side5 => refine (Kd.V_reads' (e := 5) (base := w.heap.size) (ok := fun k_ => ((((((P0_ k_ ∨ P2_0_ k_ ∨ P2_1_ k_ ∨ P3_1_ k_) ∨ w.heap.size ≤ k_)) ∧ (some k_ ≠ (.slice Ao69 t13022.length co69 : Value).ownBlock ∧ (some k_ ≠ (.slice Ao73 t13025.length co73 : Value).ownBlock ∧ (k_ ≠ gb13002 ∧ (k_ ≠ gb13006 ∧ k_ ≠ gb13029))))) ∧ some k_ ≠ (.slice Ao84 t13033.length co84 : Value).ownBlock) ∧ k_ ≠ gb13037)) (n := l3_1.length) (c := c3_1) ?_).2.2; exact (Kd.V_ext ((Kd.V_mono (Kd.V_far (p := ⟨gb13037, 1, none⟩) (Kd.V_far (p := ⟨gb13037, 0, none⟩) (Kd.V_mono HO_13003001.out (fun k_ hk => (⟨hk, hk.2⟩ : _ ∧ k_ ≠ gb13037))) (fun _ hk => hk.2) (.slice Ao79 t13030.length co79)) (fun _ hk => hk.2) (.slice Ao84 t13033.length co84)) (fun _ h_ => h_.1))))); (case side6 => exact (Kd.V_reads' HO_13003001.out).2.1); rintro e w87 ⟨v13039, v13042, rfl, ho0, ho1, hb⟩; refine ⟨_, rfl, ?_⟩; have n0_ := Aside0.mk (Kd.V_mono (Kd.V_told (Kd.V_told (Kd.V_old (Kd.V_ext ((Kd.V_mono (Kd.V_far (p := ⟨gb13037, 1, none⟩) (Kd.V_far (p := ⟨gb13037, 0, none⟩) (Kd.V_mono HO_13003001.out (fun k_ hk => (⟨hk, hk.2⟩ : _ ∧ k_ ≠ gb13037))) (fun _ hk => hk.2) (.slice Ao79 t13030.length co79)) (fun _ hk => hk.2) (.slice Ao84 t13033.length co84)) (fun _ h_ => h_.1)))) hb) (Kd.R_base ho0)) (Kd.R_base ho1)) (fun _ h_ => h_.1)); have n1_ := Aside0.mk (Kd.V_mono (Kd.V_told (Kd.V_told (Kd.V_old (Kd.V_ext ((Kd.V_mono (Kd.V_far (p := ⟨gb13037, 1, none⟩) (Kd.V_far (p := ⟨gb13037, 0, none⟩) (Kd.V_mono HO_13007000.out (fun k_ hk => (⟨hk, hk.2⟩ : _ ∧ k_ ≠ gb13037))) (fun _ hk => hk.2) (.slice Ao79 t13030.length co79)) (fun _ hk => hk.2) (.slice Ao84 t13033.length co84)) (fun _ h_ => h_.1)))) hb) (Kd.R_base ho0)) (Kd.R_base ho1)) (fun _ h_ => h_.1)); have n2_ := Aside0.mk (Kd.V_mono (Kd.V_told (Kd.V_told (Kd.V_old (Kd.V_ext ((Kd.V_mono (Kd.V_far (p := ⟨gb13037, 1, none⟩) (Kd.V_far (p := ⟨gb13037, 0, none⟩) (Kd.V_mono HO_13007001.out (fun k_ hk => (⟨hk, hk.2⟩ : _ ∧ k_ ≠ gb13037))) (fun _ hk => hk.2) (.slice Ao79 t13030.length co79)) (fun _ hk => hk.2) (.slice Ao84 t13033.length co84)) (fun _ h_ => h_.1)))) hb) (Kd.R_base ho0)) (Kd.R_base ho1)) (fun _ h_ => h_.1)); have n3_ := Aside0.mk (Kd.R_mono (Kd.R_told (Kd.R_told (Kd.R_old (Kd.R_ext ((Kd.R_mono (Kd.R_far (p := ⟨gb13037, 1, none⟩) (Kd.R_far (p := ⟨gb13037, 0, none⟩) (Kd.R_types HO13024.out BK13037.out (by decide)) (fun _ hk => hk.2) (.slice Ao79 t13030.length co79)) (fun _ hk => hk.2) (.slice Ao84 t13033.length co84)) (fun _ h_ => h_.1)))) hb) (Kd.R_base ho0)) (Kd.R_base ho1)) (fun _ h_ => h_.1)); have n4_ := Aside0.mk (Kd.R_mono (Kd.R_told (Kd.R_told (Kd.R_old (Kd.R_ext ((Kd.R_mono (Kd.R_far (p := ⟨gb13037, 1, none⟩) (Kd.R_far (p := ⟨gb13037, 0, none⟩) (Kd.R_types HO13027.out BK13037.out (by decide)) (fun _ hk => hk.2) (.slice Ao79 t13030.length co79)) (fun _ hk => hk.2) (.slice Ao84 t13033.length co84)) (fun _ h_ => h_.1)))) hb) (Kd.R_base ho0)) (Kd.R_base ho1)) (fun _ h_ => h_.1)); have n5_ := Aside0.mk (Kd.V_mono (Kd.V_told (Kd.V_told (Kd.V_old (Kd.V_ext ((Kd.V_mono (Kd.V_far (p := ⟨gb13037, 1, none⟩) (Kd.V_far (p := ⟨gb13037, 0, none⟩) (Kd.V_mono HO13032.out (fun k_ hk => (⟨hk, hk.2⟩ : _ ∧ k_ ≠ gb13037))) (fun _ hk => hk.2) (.slice Ao79 t13030.length co79)) (fun _ hk => hk.2) (.slice Ao84 t13033.length co84)) (fun _ h_ => h_.1)))) hb) (Kd.R_base ho0)) (Kd.R_base ho1)) (fun _ h_ => h_.1)); have n6_ := Aside0.mk (Kd.R_mono (Kd.R_told (Kd.R_told (Kd.R_old (Kd.R_ext ((Kd.R_mono (Kd.R_far (p := ⟨gb13037, 1, none⟩) (Kd.R_far (p := ⟨gb13037, 0, none⟩) (Kd.R_types HO13035.out BK13037.out (by decide)) (fun _ hk => hk.2) (.slice Ao79 t13030.length co79)) (fun _ hk => hk.2) (.slice Ao84 t13033.length co84)) (fun _ h_ => h_.1)))) hb) (Kd.R_base ho0)) (Kd.R_base ho1)) (fun _ h_ => h_.1)); have n7_ := Aside0.mk (Kd.R_lower (Kd.R_new' (Kd.R_new' (Kd.R_new' (Kd.R_newM (M := fun k_ => (w.heap.size ≤ k_)) ho0 (below_size (below_extB HB.out)) (fun k_ h_ => h_)) (Kd.R_lt (Kd.R_ext ((Kd.R_mono (Kd.R_far (p := ⟨gb13037, 1, none⟩) (Kd.R_far (p := ⟨gb13037, 0, none⟩) (Kd.R_types HO13024.out BK13037.out (by decide)) (fun _ hk => hk.2) (.slice Ao79 t13030.length co79)) (fun _ hk => hk.2) (.slice Ao84 t13033.length co84)) (fun _ h_ => h_.1)))))) (Kd.R_lt (Kd.R_ext ((Kd.R_mono (Kd.R_far (p := ⟨gb13037, 1, none⟩) (Kd.R_far (p := ⟨gb13037, 0, none⟩) (Kd.R_types HO13027.out BK13037.out (by decide)) (fun _ hk => hk.2) (.slice Ao79 t13030.length co79)) (fun _ hk => hk.2) (.slice Ao84 t13033.length co84)) (fun _ h_ => h_.1)))))) (Kd.R_lt (Kd.R_ext ((Kd.R_mono (Kd.R_far (p := ⟨gb13037, 1, none⟩) (Kd.R_far (p := ⟨gb13037, 0, none⟩) (Kd.R_types HO13035.out BK13037.out (by decide)) (fun _ hk => hk.2) (.slice Ao79 t13030.length co79)) (fun _ hk => hk.2) (.slice Ao84 t13033.length co84)) (fun _ h_ => h_.1)))))) (below_size (below_extB HB.out))); have n8_ := Aside0.mk (Kd.R_lower (Kd.R_new' (Kd.R_new' (Kd.R_new' (Kd.R_newM (M := fun k_ => (w.heap.size ≤ k_)) ho1 (below_size (below_extB HB.out)) (fun k_ h_ => h_)) (Kd.R_lt (Kd.R_ext ((Kd.R_mono (Kd.R_far (p := ⟨gb13037, 1, none⟩) (Kd.R_far (p := ⟨gb13037, 0, none⟩) (Kd.R_types HO13024.out BK13037.out (by decide)) (fun _ hk => hk.2) (.slice Ao79 t13030.length co79)) (fun _ hk => hk.2) (.slice Ao84 t13033.length co84)) (fun _ h_ => h_.1)))))) (Kd.R_lt (Kd.R_ext ((Kd.R_mono (Kd.R_far (p := ⟨gb13037, 1, none⟩) (Kd.R_far (p := ⟨gb13037, 0, none⟩) (Kd.R_types HO13027.out BK13037.out (by decide)) (fun _ hk => hk.2) (.slice Ao79 t13030.length co79)) (fun _ hk => hk.2) (.slice Ao84 t13033.length co84)) (fun _ h_ => h_.1)))))) (Kd.R_lt (Kd.R_ext ((Kd.R_mono (Kd.R_far (p := ⟨gb13037, 1, none⟩) (Kd.R_far (p := ⟨gb13037, 0, none⟩) (Kd.R_types HO13035.out BK13037.out (by decide)) (fun _ hk => hk.2) (.slice Ao79 t13030.length co79)) (fun _ hk => hk.2) (.slice Ao84 t13033.length co84)) (fun _ h_ => h_.1)))))) (below_size (below_extB HB.out))); have n9_ := Aside0.mk (blk_below (g := gb13002) (o := .cells #[.int .i64 a3_0, .slice A3_1 l3_1.length c3_1] 57 (0, 0)) (by (with_reducible repeat (first | refine blk_drewN ?_ _ | refine blk_drew ?_ | refine blk_alloc ?_ _)); refine blk_far ?_ NB13002_13037.out _; (with_reducible repeat (first | refine blk_drewN ?_ _ | refine blk_drew ?_ | refine blk_alloc ?_ _)); refine blk_far ?_ NB13002_13037.out _; exact blk_ext BK13002.out) hb); have n10_ := Aside0.mk (blk_below (g := gb13006) (o := .cells #[.slice Ao65 x13007000_6.length co65, .slice Ao66 x13007001_6.length co66] 24 (0, 0)) (by (with_reducible repeat (first | refine blk_drewN ?_ _ | refine blk_drew ?_ | refine blk_alloc ?_ _)); refine blk_far ?_ NB13006_13037.out _; (with_reducible repeat (first | refine blk_drewN ?_ _ | refine blk_drew ?_ | refine blk_alloc ?_ _)); refine blk_far ?_ NB13006_13037.out _; exact blk_ext BK13006.out) hb); have n11_ := Aside0.mk (blk_below (g := gb13029) (o := .cells #[.slice Ao69 t13022.length co69, .slice Ao73 t13025.length co73] 24 (0, 0)) (by (with_reducible repeat (first | refine blk_drewN ?_ _ | refine blk_drew ?_ | refine blk_alloc ?_ _)); refine blk_far ?_ NB13029_13037.out _; (with_reducible repeat (first | refine blk_drewN ?_ _ | refine blk_drew ?_ | refine blk_alloc ?_ _)); refine blk_far ?_ NB13029_13037.out _; exact blk_ext BK13029.out) hb); have n12_ := Aside0.mk (blk_below (g := gb13037) (o := .cells #[.slice Ao79 t13030.length co79, .slice Ao84 t13033.length co84] 24 (0, 0)) (by (with_reducible repeat (first | refine blk_drewN ?_ _ | refine blk_drew ?_ | refine blk_alloc ?_ _)); refine blk_put (cs := #[.slice Ao79 t13030.length co79, .slice none 0 0]) ?_ 1 _ rfl; (with_reducible repeat (first | refine blk_drewN ?_ _ | refine blk_drew ?_ | refine blk_alloc ?_ _)); refine blk_put (cs := #[.slice none 0 0, .slice none 0 0]) ?_ 0 _ rfl; exact blk_ext BK13037.out) hb); have n13_ := Aside0.mk (below_step (below_extB HB.out) hb); clear HO_13003001; clear HO_13007000; clear HO_13007001; clear HO13024; clear HO13027; clear HO13032; clear HO13035; clear BK13002; clear BK13006; clear BK13029; clear BK13037; clear HB; have HO_13003001 := n0_; have HO_13007000 := n1_; have HO_13007001 := n2_; have HO13024 := n3_; have HO13027 := n4_; have HO13032 := n5_; have HO13035 := n6_; have HO13040 := n7_; have HO13043 := n8_; have BK13002 := n9_; have BK13006 := n10_; have BK13029 := n11_; have BK13037 := n12_; have HB := n13_; clear n0_ n1_ n2_ n3_ n4_ n5_ n6_ n7_ n8_ n9_ n10_ n11_ n12_ n13_; (try clear hb); (try clear hb2); (try clear hk); (try clear hi); (try clear ho0); (try clear ho1)) | ((with_reducible refine gate_dst (N := 18) rfl ?_); refine box_event ?hg (N := 18) ?hd (cs := #[.slice none 0 0, .slice none 0 0]) (t := 24) ?hr ?_; (case hd => rfl); (case hg => rfl); (case hr => first | (go_simp; done) | (go_simp; rfl)); intro gb13045 hg w88 hbox hb; have n0_ := Aside0.mk (Kd.V_below (Kd.V_elderB (Kd.V_ext HO_13003001.out) gb13045 (Nat.le_of_eq hg.symm)) hb); have n1_ := Aside0.mk (Kd.V_below (Kd.V_elderB (Kd.V_ext HO_13007000.out) gb13045 (Nat.le_of_eq hg.symm)) hb); have n2_ := Aside0.mk (Kd.V_below (Kd.V_elderB (Kd.V_ext HO_13007001.out) gb13045 (Nat.le_of_eq hg.symm)) hb); have n3_ := Aside0.mk (Kd.R_below (Kd.R_ext HO13024.out) hb); have n4_ := Aside0.mk (Kd.R_below (Kd.R_ext HO13027.out) hb); have n5_ := Aside0.mk (Kd.V_below (Kd.V_elderB (Kd.V_ext HO13032.out) gb13045 (Nat.le_of_eq hg.symm)) hb); have n6_ := Aside0.mk (Kd.R_below (Kd.R_ext HO13035.out) hb); have n7_ := Aside0.mk (Kd.R_below (Kd.R_ext HO13040.out) hb); have n8_ := Aside0.mk (Kd.R_below (Kd.R_ext HO13043.out) hb); have n9_ := Aside0.mk (blk_below (blk_ext BK13002.out) hb); have n10_ := Aside0.mk (blk_below (blk_ext BK13006.out) hb); have n11_ := Aside0.mk (blk_below (blk_ext BK13029.out) hb); have n12_ := Aside0.mk (blk_below (blk_ext BK13037.out) hb); have n13_ := Aside0.mk (below_step (below_extB HB.out) hb); have n14_ := Aside0.mk (hbox); have n15_ := Aside0.mk ((by rw [hg]; exact (below_size (below_extB HB.out)) : w.heap.size ≤ gb13045)); have n16_ := Aside0.mk ((by rw [hg]; exact (below_size (below_extB HB.out)) : w.heap.size ≤ gb13045)); have n17_ := Aside0.mk ((by rw [hg]; exact Nat.ne_of_lt (blk_lt (blk_ext BK13002.out)) : gb13002 ≠ gb13045)); have n18_ := Aside0.mk ((by rw [hg]; exact Nat.ne_of_gt (blk_lt (blk_ext BK13002.out)) : gb13045 ≠ gb13002)); have n19_ := Aside0.mk ((by rw [hg]; exact Nat.ne_of_lt (blk_lt (blk_ext BK13006.out)) : gb13006 ≠ gb13045)); have n20_ := Aside0.mk ((by rw [hg]; exact Nat.ne_of_gt (blk_lt (blk_ext BK13006.out)) : gb13045 ≠ gb13006)); have n21_ := Aside0.mk ((by rw [hg]; exact Nat.ne_of_lt (blk_lt (blk_ext BK13029.out)) : gb13029 ≠ gb13045)); have n22_ := Aside0.mk ((by rw [hg]; exact Nat.ne_of_gt (blk_lt (blk_ext BK13029.out)) : gb13045 ≠ gb13029)); have n23_ := Aside0.mk ((by rw [hg]; exact Nat.ne_of_lt (blk_lt (blk_ext BK13037.out)) : gb13037 ≠ gb13045)); have n24_ := Aside0.mk ((by rw [hg]; exact Nat.ne_of_gt (blk_lt (blk_ext BK13037.out)) : gb13045 ≠ gb13037)); clear HO_13003001; clear HO_13007000; clear HO_13007001; clear HO13024; clear HO13027; clear HO13032; clear HO13035; clear HO13040; clear HO13043; clear BK13002; clear BK13006; clear BK13029; clear BK13037; clear HB; have HO_13003001 := n0_; have HO_13007000 := n1_; have HO_13007001 := n2_; have HO13024 := n3_; have HO13027 := n4_; have HO13032 := n5_; have HO13035 := n6_; have HO13040 := n7_; have HO13043 := n8_; have BK13002 := n9_; have BK13006 := n10_; have BK13029 := n11_; have BK13037 := n12_; have HB := n13_; have BK13045 := n14_; have GW13045 := n15_; have GE13045 := n16_; have GI13045 := GE_.mk GE13045.out; have NB13002_13045 := n17_; have NB13045_13002 := n18_; have NB13006_13045 := n19_; have NB13045_13006 := n20_; have NB13029_13045 := n21_; have NB13045_13029 := n22_; have NB13037_13045 := n23_; have NB13045_13037 := n24_; clear n0_ n1_ n2_ n3_ n4_ n5_ n6_ n7_ n8_ n9_ n10_ n11_ n12_ n13_ n14_ n15_ n16_ n17_ n18_ n19_ n20_ n21_ n22_ n23_ n24_; clear hb hbox hg; obtain ⟨Ao89, co89, eo89⟩ := Kd.R_slice HO13040.out; subst eo89; have hnb90 := NB13045_13002.out; have hnc90 := NB13002_13045.out; have hnb91 := NB13045_13006.out; have hnc91 := NB13006_13045.out; have hnb92 := NB13045_13029.out; have hnc92 := NB13029_13045.out; have hnb93 := NB13045_13037.out; have hnc93 := NB13037_13045.out; have hcz94_0 : w88.cell? ⟨gb13045, 0, none⟩ = some (.slice none 0 0) := (blk_cell BK13045.out 0).trans rfl; have hcz94_1 : w88.cell? ⟨gb13045, 1, none⟩ = some (.slice none 0 0) := (blk_cell BK13045.out 1).trans rfl; have hfz94_0 := blk_frozen BK13045.out 0; have hfz94_1 := blk_frozen BK13045.out 1; obtain ⟨Ao95, co95, eo95⟩ := Kd.R_slice HO13043.out; subst eo95; have hcz96_0 : w88.cell? ⟨gb13006, 0, none⟩ = some (.slice Ao65 x13007000_6.length co65) := (blk_cell BK13006.out 0).trans rfl; have hcz96_1 : w88.cell? ⟨gb13006, 1, none⟩ = some (.slice Ao66 x13007001_6.length co66) := (blk_cell BK13006.out 1).trans rfl; have hfz96_0 := blk_frozen BK13006.out 0; have hfz96_1 := blk_frozen BK13006.out 1; have hcz97_0 : w88.cell? ⟨gb13002, 0, none⟩ = some (.int .i64 a3_0) := (blk_cell BK13002.out 0).trans rfl; have hcz97_1 : w88.cell? ⟨gb13002, 1, none⟩ = some (.slice A3_1 l3_1.length c3_1) := (blk_cell BK13002.out 1).trans rfl; have hfz97_0 := blk_frozen BK13002.out 0; have hfz97_1 := blk_frozen BK13002.out 1) | ((with_reducible refine gate_callee (f := 60) rfl ?_); refine goesL_ (some 91) rfl rfl Try.func60 (by kernel_rfl) rfl #[.agg #[.slice Ao65 x13007000_6.length co65, .slice Ao66 x13007001_6.length co66], .slice A3_1 l3_1.length c3_1] rfl (by (try simp only [List.map_toArray, List.map_cons, List.map_nil]); first | done | rfl | (simp only [List.length_drop, List.length_take]; rfl)) ?_; (with_reducible refine (customsref33_Append.calls kj6 _ _ x13007000_6 _ _ x13007001_6 _ _ l3_1 t13046 t13049 t13052 _ ?side1 ?side2 ?side3 ?side4 ?side5 ?side6 A60.out).mono ?_); (case side1 => refine (Kd.V_reads' (e := 5) (base := w.heap.size) (ok := fun k_ => (((((((((P0_ k_ ∨ P2_0_ k_ ∨ P2_1_ k_ ∨ P3_1_ k_) ∨ w.heap.size ≤ k_)) ∧ (some k_ ≠ (.slice Ao69 t13022.length co69 : Value).ownBlock ∧ (some k_ ≠ (.slice Ao73 t13025.length co73 : Value).ownBlock ∧ (k_ ≠ gb13002 ∧ (k_ ≠ gb13006 ∧ k_ ≠ gb13029))))) ∧ some k_ ≠ (.slice Ao84 t13033.length co84 : Value).ownBlock) ∧ k_ ≠ gb13037) ∧ some k_ ≠ (.slice Ao89 t13038.length co89 : Value).ownBlock) ∧ some k_ ≠ (.slice Ao95 t13041.length co95 : Value).ownBlock) ∧ k_ ≠ gb13045)) (n := x13007000_6.length) (c := co65) ?_).2.2; exact (Kd.V_ext ((Kd.V_mono (Kd.V_far (p := ⟨gb13045, 1, none⟩) (Kd.V_far (p := ⟨gb13045, 0, none⟩) (Kd.V_mono HO_13007000.out (fun k_ hk => (⟨hk, hk.2⟩ : _ ∧ k_ ≠ gb13045))) (fun _ hk => hk.2) (.slice Ao89 t13038.length co89)) (fun _ hk => hk.2) (.slice Ao95 t13041.length co95)) (fun _ h_ => h_.1))))); (case side2 => exact (Kd.V_reads' HO_13007000.out).2.1); (case side3 => refine (Kd.V_reads' (e := 5) (base := w.heap.size) (ok := fun k_ => (((((((((P0_ k_ ∨ P2_0_ k_ ∨ P2_1_ k_ ∨ P3_1_ k_) ∨ w.heap.size ≤ k_)) ∧ (some k_ ≠ (.slice Ao69 t13022.length co69 : Value).ownBlock ∧ (some k_ ≠ (.slice Ao73 t13025.length co73 : Value).ownBlock ∧ (k_ ≠ gb13002 ∧ (k_ ≠ gb13006 ∧ k_ ≠ gb13029))))) ∧ some k_ ≠ (.slice Ao84 t13033.length co84 : Value).ownBlock) ∧ k_ ≠ gb13037) ∧ some k_ ≠ (.slice Ao89 t13038.length co89 : Value).ownBlock) ∧ some k_ ≠ (.slice Ao95 t13041.length co95 : Value).ownBlock) ∧ k_ ≠ gb13045)) (n := x13007001_6.length) (c := co66) ?_).2.2; exact (Kd.V_ext ((Kd.V_mono (Kd.V_far (p := ⟨gb13045, 1, none⟩) (Kd.V_far (p := ⟨gb13045, 0, none⟩) (Kd.V_mono HO_13007001.out (fun k_ hk => (⟨hk, hk.2⟩ : _ ∧ k_ ≠ gb13045))) (fun _ hk => hk.2) (.slice Ao89 t13038.length co89)) (fun _ hk => hk.2) (.slice Ao95 t13041.length co95)) (fun _ h_ => h_.1))))); (case side4 => exact (Kd.V_reads' HO_13007001.out).2.1); (case side5 => refine (Kd.V_reads' (e := 5) (base := w.heap.size) (ok := fun k_ => (((((((((P0_ k_ ∨ P2_0_ k_ ∨ P2_1_ k_ ∨ P3_1_ k_) ∨ w.heap.size ≤ k_)) ∧ (some k_ ≠ (.slice Ao69 t13022.length co69 : Value).ownBlock ∧ (some k_ ≠ (.slice Ao73 t13025.length co73 : Value).ownBlock ∧ (k_ ≠ gb13002 ∧ (k_ ≠ gb13006 ∧ k_ ≠ gb13029))))) ∧ some k_ ≠ (.slice Ao84 t13033.length co84 : Value).ownBlock) ∧ k_ ≠ gb13037) ∧ some k_ ≠ (.slice Ao89 t13038.length co89 : Value).ownBlock) ∧ some k_ ≠ (.slice Ao95 t13041.length co95 : Value).ownBlock) ∧ k_ ≠ gb13045)) (n := l3_1.length) (c := c3_1) ?_).2.2; exact (Kd.V_ext ((Kd.V_mono (Kd.V_far (p := ⟨gb13045, 1, none⟩) (Kd.V_far (p := ⟨gb13045, 0, none⟩) (Kd.V_mono HO_13003001.out (fun k_ hk => (⟨hk, hk.2⟩ : _ ∧ k_ ≠ gb13045))) (fun _ hk => hk.2) (.slice Ao89 t13038.length co89)) (fun _ hk => hk.2) (.slice Ao95 t13041.length co95)) (fun _ h_ => h_.1))))); (case side6 => exact (Kd.V_reads' HO_13003001.out).2.1); rintro e w98 ⟨v13047, v13050, rfl, ho0, ho1, hb⟩; refine ⟨_, rfl, ?_⟩; have n0_ := Aside0.mk (Kd.V_mono (Kd.V_told (Kd.V_told (Kd.V_old (Kd.V_ext ((Kd.V_mono (Kd.V_far (p := ⟨gb13045, 1, none⟩) (Kd.V_far (p := ⟨gb13045, 0, none⟩) (Kd.V_mono HO_13003001.out (fun k_ hk => (⟨hk, hk.2⟩ : _ ∧ k_ ≠ gb13045))) (fun _ hk => hk.2) (.slice Ao89 t13038.length co89)) (fun _ hk => hk.2) (.slice Ao95 t13041.length co95)) (fun _ h_ => h_.1)))) hb) (Kd.R_base ho0)) (Kd.R_base ho1)) (fun _ h_ => h_.1)); have n1_ := Aside0.mk (Kd.V_mono (Kd.V_told (Kd.V_told (Kd.V_old (Kd.V_ext ((Kd.V_mono (Kd.V_far (p := ⟨gb13045, 1, none⟩) (Kd.V_far (p := ⟨gb13045, 0, none⟩) (Kd.V_mono HO_13007000.out (fun k_ hk => (⟨hk, hk.2⟩ : _ ∧ k_ ≠ gb13045))) (fun _ hk => hk.2) (.slice Ao89 t13038.length co89)) (fun _ hk => hk.2) (.slice Ao95 t13041.length co95)) (fun _ h_ => h_.1)))) hb) (Kd.R_base ho0)) (Kd.R_base ho1)) (fun _ h_ => h_.1)); have n2_ := Aside0.mk (Kd.V_mono (Kd.V_told (Kd.V_told (Kd.V_old (Kd.V_ext ((Kd.V_mono (Kd.V_far (p := ⟨gb13045, 1, none⟩) (Kd.V_far (p := ⟨gb13045, 0, none⟩) (Kd.V_mono HO_13007001.out (fun k_ hk => (⟨hk, hk.2⟩ : _ ∧ k_ ≠ gb13045))) (fun _ hk => hk.2) (.slice Ao89 t13038.length co89)) (fun _ hk => hk.2) (.slice Ao95 t13041.length co95)) (fun _ h_ => h_.1)))) hb) (Kd.R_base ho0)) (Kd.R_base ho1)) (fun _ h_ => h_.1)); have n3_ := Aside0.mk (Kd.R_mono (Kd.R_told (Kd.R_told (Kd.R_old (Kd.R_ext ((Kd.R_mono (Kd.R_far (p := ⟨gb13045, 1, none⟩) (Kd.R_far (p := ⟨gb13045, 0, none⟩) (Kd.R_types HO13024.out BK13045.out (by decide)) (fun _ hk => hk.2) (.slice Ao89 t13038.length co89)) (fun _ hk => hk.2) (.slice Ao95 t13041.length co95)) (fun _ h_ => h_.1)))) hb) (Kd.R_base ho0)) (Kd.R_base ho1)) (fun _ h_ => h_.1)); have n4_ := Aside0.mk (Kd.R_mono (Kd.R_told (Kd.R_told (Kd.R_old (Kd.R_ext ((Kd.R_mono (Kd.R_far (p := ⟨gb13045, 1, none⟩) (Kd.R_far (p := ⟨gb13045, 0, none⟩) (Kd.R_types HO13027.out BK13045.out (by decide)) (fun _ hk => hk.2) (.slice Ao89 t13038.length co89)) (fun _ hk => hk.2) (.slice Ao95 t13041.length co95)) (fun _ h_ => h_.1)))) hb) (Kd.R_base ho0)) (Kd.R_base ho1)) (fun _ h_ => h_.1)); have n5_ := Aside0.mk (Kd.V_mono (Kd.V_told (Kd.V_told (Kd.V_old (Kd.V_ext ((Kd.V_mono (Kd.V_far (p := ⟨gb13045, 1, none⟩) (Kd.V_far (p := ⟨gb13045, 0, none⟩) (Kd.V_mono HO13032.out (fun k_ hk => (⟨hk, hk.2⟩ : _ ∧ k_ ≠ gb13045))) (fun _ hk => hk.2) (.slice Ao89 t13038.length co89)) (fun _ hk => hk.2) (.slice Ao95 t13041.length co95)) (fun _ h_ => h_.1)))) hb) (Kd.R_base ho0)) (Kd.R_base ho1)) (fun _ h_ => h_.1)); have n6_ := Aside0.mk (Kd.R_mono (Kd.R_told (Kd.R_told (Kd.R_old (Kd.R_ext ((Kd.R_mono (Kd.R_far (p := ⟨gb13045, 1, none⟩) (Kd.R_far (p := ⟨gb13045, 0, none⟩) (Kd.R_types HO13035.out BK13045.out (by decide)) (fun _ hk => hk.2) (.slice Ao89 t13038.length co89)) (fun _ hk => hk.2) (.slice Ao95 t13041.length co95)) (fun _ h_ => h_.1)))) hb) (Kd.R_base ho0)) (Kd.R_base ho1)) (fun _ h_ => h_.1)); have n7_ := Aside0.mk (Kd.R_mono (Kd.R_told (Kd.R_told (Kd.R_old (Kd.R_ext ((Kd.R_mono (Kd.R_far (p := ⟨gb13045, 1, none⟩) (Kd.R_far (p := ⟨gb13045, 0, none⟩) (Kd.R_types HO13040.out BK13045.out (by decide)) (fun _ hk => hk.2) (.slice Ao89 t13038.length co89)) (fun _ hk => hk.2) (.slice Ao95 t13041.length co95)) (fun _ h_ => h_.1)))) hb) (Kd.R_base ho0)) (Kd.R_base ho1)) (fun _ h_ => h_.1)); have n8_ := Aside0.mk (Kd.R_mono (Kd.R_told (Kd.R_told (Kd.R_old (Kd.R_ext ((Kd.R_mono (Kd.R_far (p := ⟨gb13045, 1, none⟩) (Kd.R_far (p := ⟨gb13045, 0, none⟩) (Kd.R_types HO13043.out BK13045.out (by decide)) (fun _ hk => hk.2) (.slice Ao89 t13038.length co89)) (fun _ hk => hk.2) (.slice Ao95 t13041.length co95)) (fun _ h_ => h_.1)))) hb) (Kd.R_base ho0)) (Kd.R_base ho1)) (fun _ h_ => h_.1)); have n9_ := Aside0.mk (Kd.R_lower (Kd.R_new' (Kd.R_new' (Kd.R_new' (Kd.R_new' (Kd.R_new' (Kd.R_newM (M := fun k_ => (w.heap.size ≤ k_)) ho0 (below_size (below_extB HB.out)) (fun k_ h_ => h_)) (Kd.R_lt (Kd.R_ext ((Kd.R_mono (Kd.R_far (p := ⟨gb13045, 1, none⟩) (Kd.R_far (p := ⟨gb13045, 0, none⟩) (Kd.R_types HO13024.out BK13045.out (by decide)) (fun _ hk => hk.2) (.slice Ao89 t13038.length co89)) (fun _ hk => hk.2) (.slice Ao95 t13041.length co95)) (fun _ h_ => h_.1)))))) (Kd.R_lt (Kd.R_ext ((Kd.R_mono (Kd.R_far (p := ⟨gb13045, 1, none⟩) (Kd.R_far (p := ⟨gb13045, 0, none⟩) (Kd.R_types HO13027.out BK13045.out (by decide)) (fun _ hk => hk.2) (.slice Ao89 t13038.length co89)) (fun _ hk => hk.2) (.slice Ao95 t13041.length co95)) (fun _ h_ => h_.1)))))) (Kd.R_lt (Kd.R_ext ((Kd.R_mono (Kd.R_far (p := ⟨gb13045, 1, none⟩) (Kd.R_far (p := ⟨gb13045, 0, none⟩) (Kd.R_types HO13035.out BK13045.out (by decide)) (fun _ hk => hk.2) (.slice Ao89 t13038.length co89)) (fun _ hk => hk.2) (.slice Ao95 t13041.length co95)) (fun _ h_ => h_.1)))))) (Kd.R_lt (Kd.R_ext ((Kd.R_mono (Kd.R_far (p := ⟨gb13045, 1, none⟩) (Kd.R_far (p := ⟨gb13045, 0, none⟩) (Kd.R_types HO13040.out BK13045.out (by decide)) (fun _ hk => hk.2) (.slice Ao89 t13038.length co89)) (fun _ hk => hk.2) (.slice Ao95 t13041.length co95)) (fun _ h_ => h_.1)))))) (Kd.R_lt (Kd.R_ext ((Kd.R_mono (Kd.R_far (p := ⟨gb13045, 1, none⟩) (Kd.R_far (p := ⟨gb13045, 0, none⟩) (Kd.R_types HO13043.out BK13045.out (by decide)) (fun _ hk => hk.2) (.slice Ao89 t13038.length co89)) (fun _ hk => hk.2) (.slice Ao95 t13041.length co95)) (fun _ h_ => h_.1)))))) (below_size (below_extB HB.out))); have n10_ := Aside0.mk (Kd.R_lower (Kd.R_new' (Kd.R_new' (Kd.R_new' (Kd.R_new' (Kd.R_new' (Kd.R_newM (M := fun k_ => (w.heap.size ≤ k_)) ho1 (below_size (below_extB HB.out)) (fun k_ h_ => h_)) (Kd.R_lt (Kd.R_ext ((Kd.R_mono (Kd.R_far (p := ⟨gb13045, 1, none⟩) (Kd.R_far (p := ⟨gb13045, 0, none⟩) (Kd.R_types HO13024.out BK13045.out (by decide)) (fun _ hk => hk.2) (.slice Ao89 t13038.length co89)) (fun _ hk => hk.2) (.slice Ao95 t13041.length co95)) (fun _ h_ => h_.1)))))) (Kd.R_lt (Kd.R_ext ((Kd.R_mono (Kd.R_far (p := ⟨gb13045, 1, none⟩) (Kd.R_far (p := ⟨gb13045, 0, none⟩) (Kd.R_types HO13027.out BK13045.out (by decide)) (fun _ hk => hk.2) (.slice Ao89 t13038.length co89)) (fun _ hk => hk.2) (.slice Ao95 t13041.length co95)) (fun _ h_ => h_.1)))))) (Kd.R_lt (Kd.R_ext ((Kd.R_mono (Kd.R_far (p := ⟨gb13045, 1, none⟩) (Kd.R_far (p := ⟨gb13045, 0, none⟩) (Kd.R_types HO13035.out BK13045.out (by decide)) (fun _ hk => hk.2) (.slice Ao89 t13038.length co89)) (fun _ hk => hk.2) (.slice Ao95 t13041.length co95)) (fun _ h_ => h_.1)))))) (Kd.R_lt (Kd.R_ext ((Kd.R_mono (Kd.R_far (p := ⟨gb13045, 1, none⟩) (Kd.R_far (p := ⟨gb13045, 0, none⟩) (Kd.R_types HO13040.out BK13045.out (by decide)) (fun _ hk => hk.2) (.slice Ao89 t13038.length co89)) (fun _ hk => hk.2) (.slice Ao95 t13041.length co95)) (fun _ h_ => h_.1)))))) (Kd.R_lt (Kd.R_ext ((Kd.R_mono (Kd.R_far (p := ⟨gb13045, 1, none⟩) (Kd.R_far (p := ⟨gb13045, 0, none⟩) (Kd.R_types HO13043.out BK13045.out (by decide)) (fun _ hk => hk.2) (.slice Ao89 t13038.length co89)) (fun _ hk => hk.2) (.slice Ao95 t13041.length co95)) (fun _ h_ => h_.1)))))) (below_size (below_extB HB.out))); have n11_ := Aside0.mk (blk_below (g := gb13002) (o := .cells #[.int .i64 a3_0, .slice A3_1 l3_1.length c3_1] 57 (0, 0)) (by (with_reducible repeat (first | refine blk_drewN ?_ _ | refine blk_drew ?_ | refine blk_alloc ?_ _)); refine blk_far ?_ NB13002_13045.out _; (with_reducible repeat (first | refine blk_drewN ?_ _ | refine blk_drew ?_ | refine blk_alloc ?_ _)); refine blk_far ?_ NB13002_13045.out _; exact blk_ext BK13002.out) hb); have n12_ := Aside0.mk (blk_below (g := gb13006) (o := .cells #[.slice Ao65 x13007000_6.length co65, .slice Ao66 x13007001_6.length co66] 24 (0, 0)) (by (with_reducible repeat (first | refine blk_drewN ?_ _ | refine blk_drew ?_ | refine blk_alloc ?_ _)); refine blk_far ?_ NB13006_13045.out _; (with_reducible repeat (first | refine blk_drewN ?_ _ | refine blk_drew ?_ | refine blk_alloc ?_ _)); refine blk_far ?_ NB13006_13045.out _; exact blk_ext BK13006.out) hb); have n13_ := Aside0.mk (blk_below (g := gb13029) (o := .cells #[.slice Ao69 t13022.length co69, .slice Ao73 t13025.length co73] 24 (0, 0)) (by (with_reducible repeat (first | refine blk_drewN ?_ _ | refine blk_drew ?_ | refine blk_alloc ?_ _)); refine blk_far ?_ NB13029_13045.out _; (with_reducible repeat (first | refine blk_drewN ?_ _ | refine blk_drew ?_ | refine blk_alloc ?_ _)); refine blk_far ?_ NB13029_13045.out _; exact blk_ext BK13029.out) hb); have n14_ := Aside0.mk (blk_below (g := gb13037) (o := .cells #[.slice Ao79 t13030.length co79, .slice Ao84 t13033.length co84] 24 (0, 0)) (by (with_reducible repeat (first | refine blk_drewN ?_ _ | refine blk_drew ?_ | refine blk_alloc ?_ _)); refine blk_far ?_ NB13037_13045.out _; (with_reducible repeat (first | refine blk_drewN ?_ _ | refine blk_drew ?_ | refine blk_alloc ?_ _)); refine blk_far ?_ NB13037_13045.out _; exact blk_ext BK13037.out) hb); have n15_ := Aside0.mk (blk_below (g := gb13045) (o := .cells #[.slice Ao89 t13038.length co89, .slice Ao95 t13041.length co95] 24 (0, 0)) (by (with_reducible repeat (first | refine blk_drewN ?_ _ | refine blk_drew ?_ | refine blk_alloc ?_ _)); refine blk_put (cs := #[.slice Ao89 t13038.length co89, .slice none 0 0]) ?_ 1 _ rfl; (with_reducible repeat (first | refine blk_drewN ?_ _ | refine blk_drew ?_ | refine blk_alloc ?_ _)); refine blk_put (cs := #[.slice none 0 0, .slice none 0 0]) ?_ 0 _ rfl; exact blk_ext BK13045.out) hb); have n16_ := Aside0.mk (below_step (below_extB HB.out) hb); clear HO_13003001; clear HO_13007000; clear HO_13007001; clear HO13024; clear HO13027; clear HO13032; clear HO13035; clear HO13040; clear HO13043; clear BK13002; clear BK13006; clear BK13029; clear BK13037; clear BK13045; clear HB; have HO_13003001 := n0_; have HO_13007000 := n1_; have HO_13007001 := n2_; have HO13024 := n3_; have HO13027 := n4_; have HO13032 := n5_; have HO13035 := n6_; have HO13040 := n7_; have HO13043 := n8_; have HO13048 := n9_; have HO13051 := n10_; have BK13002 := n11_; have BK13006 := n12_; have BK13029 := n13_; have BK13037 := n14_; have BK13045 := n15_; have HB := n16_; clear n0_ n1_ n2_ n3_ n4_ n5_ n6_ n7_ n8_ n9_ n10_ n11_ n12_ n13_ n14_ n15_ n16_; (try clear hb); (try clear hb2); (try clear hk); (try clear hi); (try clear ho0); (try clear ho1)) | ((with_reducible refine gate_dst (N := 20) rfl ?_); refine box_event ?hg (N := 20) ?hd (cs := #[.slice none 0 0, .slice none 0 0]) (t := 24) ?hr ?_; (case hd => rfl); (case hg => rfl); (case hr => first | (go_simp; done) | (go_simp; rfl)); intro gb13053 hg w99 hbox hb; have n0_ := Aside0.mk (Kd.V_below (Kd.V_elderB (Kd.V_ext HO_13003001.out) gb13053 (Nat.le_of_eq hg.symm)) hb); have n1_ := Aside0.mk (Kd.V_below (Kd.V_elderB (Kd.V_ext HO_13007000.out) gb13053 (Nat.le_of_eq hg.symm)) hb); have n2_ := Aside0.mk (Kd.V_below (Kd.V_elderB (Kd.V_ext HO_13007001.out) gb13053 (Nat.le_of_eq hg.symm)) hb); have n3_ := Aside0.mk (Kd.R_below (Kd.R_ext HO13024.out) hb); have n4_ := Aside0.mk (Kd.R_below (Kd.R_ext HO13027.out) hb); have n5_ := Aside0.mk (Kd.V_below (Kd.V_elderB (Kd.V_ext HO13032.out) gb13053 (Nat.le_of_eq hg.symm)) hb); have n6_ := Aside0.mk (Kd.R_below (Kd.R_ext HO13035.out) hb); have n7_ := Aside0.mk (Kd.R_below (Kd.R_ext HO13040.out) hb); have n8_ := Aside0.mk (Kd.R_below (Kd.R_ext HO13043.out) hb); have n9_ := Aside0.mk (Kd.R_below (Kd.R_ext HO13048.out) hb); have n10_ := Aside0.mk (Kd.R_below (Kd.R_ext HO13051.out) hb); have n11_ := Aside0.mk (blk_below (blk_ext BK13002.out) hb); have n12_ := Aside0.mk (blk_below (blk_ext BK13006.out) hb); have n13_ := Aside0.mk (blk_below (blk_ext BK13029.out) hb); have n14_ := Aside0.mk (blk_below (blk_ext BK13037.out) hb); have n15_ := Aside0.mk (blk_below (blk_ext BK13045.out) hb); have n16_ := Aside0.mk (below_step (below_extB HB.out) hb); have n17_ := Aside0.mk (hbox); have n18_ := Aside0.mk ((by rw [hg]; exact (below_size (below_extB HB.out)) : w.heap.size ≤ gb13053)); have n19_ := Aside0.mk ((by rw [hg]; exact (below_size (below_extB HB.out)) : w.heap.size ≤ gb13053)); have n20_ := Aside0.mk ((by rw [hg]; exact Nat.ne_of_lt (blk_lt (blk_ext BK13002.out)) : gb13002 ≠ gb13053)); have n21_ := Aside0.mk ((by rw [hg]; exact Nat.ne_of_gt (blk_lt (blk_ext BK13002.out)) : gb13053 ≠ gb13002)); have n22_ := Aside0.mk ((by rw [hg]; exact Nat.ne_of_lt (blk_lt (blk_ext BK13006.out)) : gb13006 ≠ gb13053)); have n23_ := Aside0.mk ((by rw [hg]; exact Nat.ne_of_gt (blk_lt (blk_ext BK13006.out)) : gb13053 ≠ gb13006)); have n24_ := Aside0.mk ((by rw [hg]; exact Nat.ne_of_lt (blk_lt (blk_ext BK13029.out)) : gb13029 ≠ gb13053)); have n25_ := Aside0.mk ((by rw [hg]; exact Nat.ne_of_gt (blk_lt (blk_ext BK13029.out)) : gb13053 ≠ gb13029)); have n26_ := Aside0.mk ((by rw [hg]; exact Nat.ne_of_lt (blk_lt (blk_ext BK13037.out)) : gb13037 ≠ gb13053)); have n27_ := Aside0.mk ((by rw [hg]; exact Nat.ne_of_gt (blk_lt (blk_ext BK13037.out)) : gb13053 ≠ gb13037)); have n28_ := Aside0.mk ((by rw [hg]; exact Nat.ne_of_lt (blk_lt (blk_ext BK13045.out)) : gb13045 ≠ gb13053)); have n29_ := Aside0.mk ((by rw [hg]; exact Nat.ne_of_gt (blk_lt (blk_ext BK13045.out)) : gb13053 ≠ gb13045)); clear HO_13003001; clear HO_13007000; clear HO_13007001; clear HO13024; clear HO13027; clear HO13032; clear HO13035; clear HO13040; clear HO13043; clear HO13048; clear HO13051; clear BK13002; clear BK13006; clear BK13029; clear BK13037; clear BK13045; clear HB; have HO_13003001 := n0_; have HO_13007000 := n1_; have HO_13007001 := n2_; have HO13024 := n3_; have HO13027 := n4_; have HO13032 := n5_; have HO13035 := n6_; have HO13040 := n7_; have HO13043 := n8_; have HO13048 := n9_; have HO13051 := n10_; have BK13002 := n11_; have BK13006 := n12_; have BK13029 := n13_; have BK13037 := n14_; have BK13045 := n15_; have HB := n16_; have BK13053 := n17_; have GW13053 := n18_; have GE13053 := n19_; have GI13053 := GE_.mk GE13053.out; have NB13002_13053 := n20_; have NB13053_13002 := n21_; have NB13006_13053 := n22_; have NB13053_13006 := n23_; have NB13029_13053 := n24_; have NB13053_13029 := n25_; have NB13037_13053 := n26_; have NB13053_13037 := n27_; have NB13045_13053 := n28_; have NB13053_13045 := n29_; clear n0_ n1_ n2_ n3_ n4_ n5_ n6_ n7_ n8_ n9_ n10_ n11_ n12_ n13_ n14_ n15_ n16_ n17_ n18_ n19_ n20_ n21_ n22_ n23_ n24_ n25_ n26_ n27_ n28_ n29_; clear hb hbox hg; obtain ⟨Ao100, co100, eo100⟩ := Kd.R_slice HO13048.out; subst eo100; have hnb101 := NB13053_13002.out; have hnc101 := NB13002_13053.out; have hnb102 := NB13053_13006.out; have hnc102 := NB13006_13053.out; have hnb103 := NB13053_13029.out; have hnc103 := NB13029_13053.out; have hnb104 := NB13053_13037.out; have hnc104 := NB13037_13053.out; have hnb105 := NB13053_13045.out; have hnc105 := NB13045_13053.out; have hcz106_0 : w99.cell? ⟨gb13053, 0, none⟩ = some (.slice none 0 0) := (blk_cell BK13053.out 0).trans rfl; have hcz106_1 : w99.cell? ⟨gb13053, 1, none⟩ = some (.slice none 0 0) := (blk_cell BK13053.out 1).trans rfl; have hfz106_0 := blk_frozen BK13053.out 0; have hfz106_1 := blk_frozen BK13053.out 1; obtain ⟨Ao107, co107, eo107⟩ := Kd.R_slice HO13051.out; subst eo107))
      (try simp only [Act.put, List.setIfInBounds_toArray, List.set_cons_zero, List.set_cons_succ])
      go_cut [113] (fun v113 wc => ∃ (kq : Nat) (x113_60 : Bool), v113 = .bool x113_60 ∧ Aside0 (customslaw34_JournalOpen.j4 kq x113_60 x13007000_6 x13007001_6 = some r) ∧ Aside0 (kq ≤ kj6) ∧ Aside0 (Kd.V (Kd.int .u8) 5 wc w.heap.size (fun k_ => ((P0_ k_ ∨ P2_0_ k_ ∨ P2_1_ k_ ∨ P3_1_ k_) ∨ w.heap.size ≤ k_) ∧ k_ ≠ gb13006) (.slice Ao65 x13007000_6.length co65) x13007000_6) ∧ Aside0 (Kd.V (Kd.int .u8) 5 wc w.heap.size (fun k_ => ((P0_ k_ ∨ P2_0_ k_ ∨ P2_1_ k_ ∨ P3_1_ k_) ∨ w.heap.size ≤ k_) ∧ k_ ≠ gb13006) (.slice Ao66 x13007001_6.length co66) x13007001_6) ∧ Aside0 (wc.heap[gb13006]? = some (.cells #[(.slice Ao65 x13007000_6.length co65), (.slice Ao66 x13007001_6.length co66)] 24 (0, 0))) ∧ Aside0 (Below w.heap.size w wc))
      case first =>
        have H := HC61.out
        clear HC61
        by_cases c108 : t13028 = t13036
        · rw [if_pos c108] at H
          have c108b0 : (t13028 == t13036) = true := beq_iff_eq.mpr c108
          have c108b1 : (t13028 != t13036) = false := bne_eq_false_iff_eq.mpr c108
          clear c108
          (first | rw [c108b0] | (simp only [i64_w, i32_w]; rw [c108b0]) | skip)
          replace H := Option.bind_eq_some_iff.mp H
          obtain ⟨t13054, A1090, H⟩ := H
          try dsimp only at H
          have A109 := Aside0.mk A1090
          clear A1090
          by_cases c110 : t13054 = true
          · subst c110
            have H1 : (if t13044 = t13052 then ((customsref33_SameDisk.f t13038 t13041 t13046 t13049).bind fun t13055 => (customslaw34_JournalOpen.j4 kj6 (!t13055) x13007000_6 x13007001_6)) else (customslaw34_JournalOpen.j4 kj6 true x13007000_6 x13007001_6)) = some r := by rw [if_pos rfl] at H; exact H
            clear H
            have H := H1
            clear H1
            by_cases c111 : t13044 = t13052
            · rw [if_pos c111] at H
              have c111b0 : (t13044 == t13052) = true := beq_iff_eq.mpr c111
              have c111b1 : (t13044 != t13052) = false := bne_eq_false_iff_eq.mpr c111
              clear c111
              replace H := Option.bind_eq_some_iff.mp H
              obtain ⟨t13055, A1120, H⟩ := H
              try dsimp only at H
              have A112 := Aside0.mk A1120
              clear A1120
              have H' := Aside0.mk H
              clear H
              have hnb113 := NB13029_13002.out
              have hnc113 := NB13002_13029.out
              have hnb114 := NB13029_13006.out
              have hnc114 := NB13006_13029.out
              have hnb115 := NB13029_13037.out
              have hnc115 := NB13037_13029.out
              have hnb116 := NB13029_13045.out
              have hnc116 := NB13045_13029.out
              have hnb117 := NB13029_13053.out
              have hnc117 := NB13053_13029.out
              have hcz118_0 : w99.cell? ⟨gb13029, 0, none⟩ = some (.slice Ao69 t13022.length co69) := (blk_cell BK13029.out 0).trans rfl
              have hcz118_1 : w99.cell? ⟨gb13029, 1, none⟩ = some (.slice Ao73 t13025.length co73) := (blk_cell BK13029.out 1).trans rfl
              have hfz118_0 := blk_frozen BK13029.out 0
              have hfz118_1 := blk_frozen BK13029.out 1
              have hnb119 := NB13037_13002.out
              have hnc119 := NB13002_13037.out
              have hnb120 := NB13037_13006.out
              have hnc120 := NB13006_13037.out
              have hnb121 := NB13037_13045.out
              have hnc121 := NB13045_13037.out
              have hnb122 := NB13037_13053.out
              have hnc122 := NB13053_13037.out
              have hcz123_0 : w99.cell? ⟨gb13037, 0, none⟩ = some (.slice Ao79 t13030.length co79) := (blk_cell BK13037.out 0).trans rfl
              have hcz123_1 : w99.cell? ⟨gb13037, 1, none⟩ = some (.slice Ao84 t13033.length co84) := (blk_cell BK13037.out 1).trans rfl
              have hfz123_0 := blk_frozen BK13037.out 0
              have hfz123_1 := blk_frozen BK13037.out 1
              go_wp2_with (first | (go_at_call 18; (with_reducible refine (customsref33_SameDisk.calls _ _ t13022 _ _ t13025 _ _ t13030 _ _ t13033 true _ ?side1 ?side2 ?side3 ?side4 ?side5 ?side6 ?side7 ?side8 A109.out).mono ?_); (case side1 => refine (Kd.R_reads' (e := 5) (base := w.heap.size) (ok := fun k_ => (((((((w.heap.size ≤ k_) ∧ some k_ ≠ (.slice Ao73 t13025.length co73 : Value).ownBlock) ∧ some k_ ≠ (.slice Ao84 t13033.length co84 : Value).ownBlock) ∧ some k_ ≠ (.slice Ao89 t13038.length co89 : Value).ownBlock) ∧ some k_ ≠ (.slice Ao95 t13041.length co95 : Value).ownBlock) ∧ some k_ ≠ (.slice Ao100 t13046.length co100 : Value).ownBlock) ∧ some k_ ≠ (.slice Ao107 t13049.length co107 : Value).ownBlock)) (n := t13022.length) (c := co69) ?_).2.2; exact (Kd.R_ext ((Kd.R_mono (Kd.R_far (p := ⟨gb13053, 1, none⟩) (Kd.R_far (p := ⟨gb13053, 0, none⟩) (Kd.R_types HO13024.out BK13053.out (by decide)) (fun _ hk => hk.2) (.slice Ao100 t13046.length co100)) (fun _ hk => hk.2) (.slice Ao107 t13049.length co107)) (fun _ h_ => h_.1))))); (case side2 => exact (Kd.R_reads' HO13024.out).2.1); (case side3 => refine (Kd.R_reads' (e := 5) (base := w.heap.size) (ok := fun k_ => (((((((w.heap.size ≤ k_) ∧ some k_ ≠ (.slice Ao69 t13022.length co69 : Value).ownBlock) ∧ some k_ ≠ (.slice Ao84 t13033.length co84 : Value).ownBlock) ∧ some k_ ≠ (.slice Ao89 t13038.length co89 : Value).ownBlock) ∧ some k_ ≠ (.slice Ao95 t13041.length co95 : Value).ownBlock) ∧ some k_ ≠ (.slice Ao100 t13046.length co100 : Value).ownBlock) ∧ some k_ ≠ (.slice Ao107 t13049.length co107 : Value).ownBlock)) (n := t13025.length) (c := co73) ?_).2.2; exact (Kd.R_ext ((Kd.R_mono (Kd.R_far (p := ⟨gb13053, 1, none⟩) (Kd.R_far (p := ⟨gb13053, 0, none⟩) (Kd.R_types HO13027.out BK13053.out (by decide)) (fun _ hk => hk.2) (.slice Ao100 t13046.length co100)) (fun _ hk => hk.2) (.slice Ao107 t13049.length co107)) (fun _ h_ => h_.1))))); (case side4 => exact (Kd.R_reads' HO13027.out).2.1); (case side5 => refine (Kd.V_reads' (e := 5) (base := w.heap.size) (ok := fun k_ => (((((((((((P0_ k_ ∨ P2_0_ k_ ∨ P2_1_ k_ ∨ P3_1_ k_) ∨ w.heap.size ≤ k_)) ∧ (some k_ ≠ (.slice Ao84 t13033.length co84 : Value).ownBlock ∧ (some k_ ≠ (.slice Ao69 t13022.length co69 : Value).ownBlock ∧ (some k_ ≠ (.slice Ao73 t13025.length co73 : Value).ownBlock ∧ (k_ ≠ gb13002 ∧ (k_ ≠ gb13006 ∧ k_ ≠ gb13029)))))) ∧ k_ ≠ gb13037) ∧ some k_ ≠ (.slice Ao89 t13038.length co89 : Value).ownBlock) ∧ some k_ ≠ (.slice Ao95 t13041.length co95 : Value).ownBlock) ∧ k_ ≠ gb13045) ∧ some k_ ≠ (.slice Ao100 t13046.length co100 : Value).ownBlock) ∧ some k_ ≠ (.slice Ao107 t13049.length co107 : Value).ownBlock) ∧ k_ ≠ gb13053)) (n := t13030.length) (c := co79) ?_).2.2; exact (Kd.V_ext ((Kd.V_mono (Kd.V_far (p := ⟨gb13053, 1, none⟩) (Kd.V_far (p := ⟨gb13053, 0, none⟩) (Kd.V_mono HO13032.out (fun k_ hk => (⟨hk, hk.2⟩ : _ ∧ k_ ≠ gb13053))) (fun _ hk => hk.2) (.slice Ao100 t13046.length co100)) (fun _ hk => hk.2) (.slice Ao107 t13049.length co107)) (fun _ h_ => h_.1))))); (case side6 => exact (Kd.V_reads' HO13032.out).2.1); (case side7 => refine (Kd.R_reads' (e := 5) (base := w.heap.size) (ok := fun k_ => ((((((((w.heap.size ≤ k_) ∧ True) ∧ some k_ ≠ (.slice Ao69 t13022.length co69 : Value).ownBlock) ∧ some k_ ≠ (.slice Ao73 t13025.length co73 : Value).ownBlock) ∧ some k_ ≠ (.slice Ao89 t13038.length co89 : Value).ownBlock) ∧ some k_ ≠ (.slice Ao95 t13041.length co95 : Value).ownBlock) ∧ some k_ ≠ (.slice Ao100 t13046.length co100 : Value).ownBlock) ∧ some k_ ≠ (.slice Ao107 t13049.length co107 : Value).ownBlock)) (n := t13033.length) (c := co84) ?_).2.2; exact (Kd.R_ext ((Kd.R_mono (Kd.R_far (p := ⟨gb13053, 1, none⟩) (Kd.R_far (p := ⟨gb13053, 0, none⟩) (Kd.R_types HO13035.out BK13053.out (by decide)) (fun _ hk => hk.2) (.slice Ao100 t13046.length co100)) (fun _ hk => hk.2) (.slice Ao107 t13049.length co107)) (fun _ h_ => h_.1))))); (case side8 => exact (Kd.R_reads' HO13035.out).2.1); rintro e w124 ⟨rfl, hb⟩; have n0_ := Aside0.mk (Kd.V_below (Kd.V_ext ((Kd.V_mono (Kd.V_far (p := ⟨gb13053, 1, none⟩) (Kd.V_far (p := ⟨gb13053, 0, none⟩) (Kd.V_mono HO_13003001.out (fun k_ hk => (⟨hk, hk.2⟩ : _ ∧ k_ ≠ gb13053))) (fun _ hk => hk.2) (.slice Ao100 t13046.length co100)) (fun _ hk => hk.2) (.slice Ao107 t13049.length co107)) (fun _ h_ => h_.1)))) hb); have n1_ := Aside0.mk (Kd.V_below (Kd.V_ext ((Kd.V_mono (Kd.V_far (p := ⟨gb13053, 1, none⟩) (Kd.V_far (p := ⟨gb13053, 0, none⟩) (Kd.V_mono HO_13007000.out (fun k_ hk => (⟨hk, hk.2⟩ : _ ∧ k_ ≠ gb13053))) (fun _ hk => hk.2) (.slice Ao100 t13046.length co100)) (fun _ hk => hk.2) (.slice Ao107 t13049.length co107)) (fun _ h_ => h_.1)))) hb); have n2_ := Aside0.mk (Kd.V_below (Kd.V_ext ((Kd.V_mono (Kd.V_far (p := ⟨gb13053, 1, none⟩) (Kd.V_far (p := ⟨gb13053, 0, none⟩) (Kd.V_mono HO_13007001.out (fun k_ hk => (⟨hk, hk.2⟩ : _ ∧ k_ ≠ gb13053))) (fun _ hk => hk.2) (.slice Ao100 t13046.length co100)) (fun _ hk => hk.2) (.slice Ao107 t13049.length co107)) (fun _ h_ => h_.1)))) hb); have n3_ := Aside0.mk (Kd.R_below (Kd.R_ext ((Kd.R_mono (Kd.R_far (p := ⟨gb13053, 1, none⟩) (Kd.R_far (p := ⟨gb13053, 0, none⟩) (Kd.R_types HO13024.out BK13053.out (by decide)) (fun _ hk => hk.2) (.slice Ao100 t13046.length co100)) (fun _ hk => hk.2) (.slice Ao107 t13049.length co107)) (fun _ h_ => h_.1)))) hb); have n4_ := Aside0.mk (Kd.R_below (Kd.R_ext ((Kd.R_mono (Kd.R_far (p := ⟨gb13053, 1, none⟩) (Kd.R_far (p := ⟨gb13053, 0, none⟩) (Kd.R_types HO13027.out BK13053.out (by decide)) (fun _ hk => hk.2) (.slice Ao100 t13046.length co100)) (fun _ hk => hk.2) (.slice Ao107 t13049.length co107)) (fun _ h_ => h_.1)))) hb); have n5_ := Aside0.mk (Kd.V_below (Kd.V_ext ((Kd.V_mono (Kd.V_far (p := ⟨gb13053, 1, none⟩) (Kd.V_far (p := ⟨gb13053, 0, none⟩) (Kd.V_mono HO13032.out (fun k_ hk => (⟨hk, hk.2⟩ : _ ∧ k_ ≠ gb13053))) (fun _ hk => hk.2) (.slice Ao100 t13046.length co100)) (fun _ hk => hk.2) (.slice Ao107 t13049.length co107)) (fun _ h_ => h_.1)))) hb); have n6_ := Aside0.mk (Kd.R_below (Kd.R_ext ((Kd.R_mono (Kd.R_far (p := ⟨gb13053, 1, none⟩) (Kd.R_far (p := ⟨gb13053, 0, none⟩) (Kd.R_types HO13035.out BK13053.out (by decide)) (fun _ hk => hk.2) (.slice Ao100 t13046.length co100)) (fun _ hk => hk.2) (.slice Ao107 t13049.length co107)) (fun _ h_ => h_.1)))) hb); have n7_ := Aside0.mk (Kd.R_below (Kd.R_ext ((Kd.R_mono (Kd.R_far (p := ⟨gb13053, 1, none⟩) (Kd.R_far (p := ⟨gb13053, 0, none⟩) (Kd.R_types HO13040.out BK13053.out (by decide)) (fun _ hk => hk.2) (.slice Ao100 t13046.length co100)) (fun _ hk => hk.2) (.slice Ao107 t13049.length co107)) (fun _ h_ => h_.1)))) hb); have n8_ := Aside0.mk (Kd.R_below (Kd.R_ext ((Kd.R_mono (Kd.R_far (p := ⟨gb13053, 1, none⟩) (Kd.R_far (p := ⟨gb13053, 0, none⟩) (Kd.R_types HO13043.out BK13053.out (by decide)) (fun _ hk => hk.2) (.slice Ao100 t13046.length co100)) (fun _ hk => hk.2) (.slice Ao107 t13049.length co107)) (fun _ h_ => h_.1)))) hb); have n9_ := Aside0.mk (Kd.R_below (Kd.R_ext ((Kd.R_mono (Kd.R_far (p := ⟨gb13053, 1, none⟩) (Kd.R_far (p := ⟨gb13053, 0, none⟩) (Kd.R_types HO13048.out BK13053.out (by decide)) (fun _ hk => hk.2) (.slice Ao100 t13046.length co100)) (fun _ hk => hk.2) (.slice Ao107 t13049.length co107)) (fun _ h_ => h_.1)))) hb); have n10_ := Aside0.mk (Kd.R_below (Kd.R_ext ((Kd.R_mono (Kd.R_far (p := ⟨gb13053, 1, none⟩) (Kd.R_far (p := ⟨gb13053, 0, none⟩) (Kd.R_types HO13051.out BK13053.out (by decide)) (fun _ hk => hk.2) (.slice Ao100 t13046.length co100)) (fun _ hk => hk.2) (.slice Ao107 t13049.length co107)) (fun _ h_ => h_.1)))) hb); have n11_ := Aside0.mk (blk_below (g := gb13002) (o := .cells #[.int .i64 a3_0, .slice A3_1 l3_1.length c3_1] 57 (0, 0)) (by (with_reducible repeat (first | refine blk_drewN ?_ _ | refine blk_drew ?_ | refine blk_alloc ?_ _)); refine blk_far ?_ NB13002_13053.out _; (with_reducible repeat (first | refine blk_drewN ?_ _ | refine blk_drew ?_ | refine blk_alloc ?_ _)); refine blk_far ?_ NB13002_13053.out _; exact blk_ext BK13002.out) hb); have n12_ := Aside0.mk (blk_below (g := gb13006) (o := .cells #[.slice Ao65 x13007000_6.length co65, .slice Ao66 x13007001_6.length co66] 24 (0, 0)) (by (with_reducible repeat (first | refine blk_drewN ?_ _ | refine blk_drew ?_ | refine blk_alloc ?_ _)); refine blk_far ?_ NB13006_13053.out _; (with_reducible repeat (first | refine blk_drewN ?_ _ | refine blk_drew ?_ | refine blk_alloc ?_ _)); refine blk_far ?_ NB13006_13053.out _; exact blk_ext BK13006.out) hb); have n13_ := Aside0.mk (blk_below (g := gb13029) (o := .cells #[.slice Ao69 t13022.length co69, .slice Ao73 t13025.length co73] 24 (0, 0)) (by (with_reducible repeat (first | refine blk_drewN ?_ _ | refine blk_drew ?_ | refine blk_alloc ?_ _)); refine blk_far ?_ NB13029_13053.out _; (with_reducible repeat (first | refine blk_drewN ?_ _ | refine blk_drew ?_ | refine blk_alloc ?_ _)); refine blk_far ?_ NB13029_13053.out _; exact blk_ext BK13029.out) hb); have n14_ := Aside0.mk (blk_below (g := gb13037) (o := .cells #[.slice Ao79 t13030.length co79, .slice Ao84 t13033.length co84] 24 (0, 0)) (by (with_reducible repeat (first | refine blk_drewN ?_ _ | refine blk_drew ?_ | refine blk_alloc ?_ _)); refine blk_far ?_ NB13037_13053.out _; (with_reducible repeat (first | refine blk_drewN ?_ _ | refine blk_drew ?_ | refine blk_alloc ?_ _)); refine blk_far ?_ NB13037_13053.out _; exact blk_ext BK13037.out) hb); have n15_ := Aside0.mk (blk_below (g := gb13045) (o := .cells #[.slice Ao89 t13038.length co89, .slice Ao95 t13041.length co95] 24 (0, 0)) (by (with_reducible repeat (first | refine blk_drewN ?_ _ | refine blk_drew ?_ | refine blk_alloc ?_ _)); refine blk_far ?_ NB13045_13053.out _; (with_reducible repeat (first | refine blk_drewN ?_ _ | refine blk_drew ?_ | refine blk_alloc ?_ _)); refine blk_far ?_ NB13045_13053.out _; exact blk_ext BK13045.out) hb); have n16_ := Aside0.mk (blk_below (g := gb13053) (o := .cells #[.slice Ao100 t13046.length co100, .slice Ao107 t13049.length co107] 24 (0, 0)) (by (with_reducible repeat (first | refine blk_drewN ?_ _ | refine blk_drew ?_ | refine blk_alloc ?_ _)); refine blk_put (cs := #[.slice Ao100 t13046.length co100, .slice none 0 0]) ?_ 1 _ rfl; (with_reducible repeat (first | refine blk_drewN ?_ _ | refine blk_drew ?_ | refine blk_alloc ?_ _)); refine blk_put (cs := #[.slice none 0 0, .slice none 0 0]) ?_ 0 _ rfl; exact blk_ext BK13053.out) hb); have n17_ := Aside0.mk (below_step (below_extB HB.out) hb); clear HO_13003001; clear HO_13007000; clear HO_13007001; clear HO13024; clear HO13027; clear HO13032; clear HO13035; clear HO13040; clear HO13043; clear HO13048; clear HO13051; clear BK13002; clear BK13006; clear BK13029; clear BK13037; clear BK13045; clear BK13053; clear HB; have HO_13003001 := n0_; have HO_13007000 := n1_; have HO_13007001 := n2_; have HO13024 := n3_; have HO13027 := n4_; have HO13032 := n5_; have HO13035 := n6_; have HO13040 := n7_; have HO13043 := n8_; have HO13048 := n9_; have HO13051 := n10_; have BK13002 := n11_; have BK13006 := n12_; have BK13029 := n13_; have BK13037 := n14_; have BK13045 := n15_; have BK13053 := n16_; have HB := n17_; clear n0_ n1_ n2_ n3_ n4_ n5_ n6_ n7_ n8_ n9_ n10_ n11_ n12_ n13_ n14_ n15_ n16_ n17_; (try clear hb); (try clear hb2); (try clear hk); (try clear hi); have hnb125 := NB13045_13002.out; have hnc125 := NB13002_13045.out; have hnb126 := NB13045_13006.out; have hnc126 := NB13006_13045.out; have hnb127 := NB13045_13053.out; have hnc127 := NB13053_13045.out; have hcz128_0 : w124.cell? ⟨gb13045, 0, none⟩ = some (.slice Ao89 t13038.length co89) := (blk_cell BK13045.out 0).trans rfl; have hcz128_1 : w124.cell? ⟨gb13045, 1, none⟩ = some (.slice Ao95 t13041.length co95) := (blk_cell BK13045.out 1).trans rfl; have hfz128_0 := blk_frozen BK13045.out 0; have hfz128_1 := blk_frozen BK13045.out 1; have hnb129 := NB13053_13002.out; have hnc129 := NB13002_13053.out; have hnb130 := NB13053_13006.out; have hnc130 := NB13006_13053.out; have hcz131_0 : w124.cell? ⟨gb13053, 0, none⟩ = some (.slice Ao100 t13046.length co100) := (blk_cell BK13053.out 0).trans rfl; have hcz131_1 : w124.cell? ⟨gb13053, 1, none⟩ = some (.slice Ao107 t13049.length co107) := (blk_cell BK13053.out 1).trans rfl; have hfz131_0 := blk_frozen BK13053.out 0; have hfz131_1 := blk_frozen BK13053.out 1) | (go_at_call 18; (with_reducible refine (customsref33_SameDisk.calls _ _ t13038 _ _ t13041 _ _ t13046 _ _ t13049 t13055 _ ?side1 ?side2 ?side3 ?side4 ?side5 ?side6 ?side7 ?side8 A112.out).mono ?_); (case side1 => exact Kd.C_ext (Kd.R_reads' HO13040.out).2.2); (case side2 => exact (Kd.R_reads' HO13040.out).2.1); (case side3 => exact Kd.C_ext (Kd.R_reads' HO13043.out).2.2); (case side4 => exact (Kd.R_reads' HO13043.out).2.1); (case side5 => exact Kd.C_ext (Kd.R_reads' HO13048.out).2.2); (case side6 => exact (Kd.R_reads' HO13048.out).2.1); (case side7 => exact Kd.C_ext (Kd.R_reads' HO13051.out).2.2); (case side8 => exact (Kd.R_reads' HO13051.out).2.1); rintro e w132 ⟨rfl, hb⟩; have n0_ := Aside0.mk (Kd.V_below (Kd.V_ext HO_13003001.out) hb); have n1_ := Aside0.mk (Kd.V_below (Kd.V_ext HO_13007000.out) hb); have n2_ := Aside0.mk (Kd.V_below (Kd.V_ext HO_13007001.out) hb); have n3_ := Aside0.mk (Kd.R_below (Kd.R_ext HO13024.out) hb); have n4_ := Aside0.mk (Kd.R_below (Kd.R_ext HO13027.out) hb); have n5_ := Aside0.mk (Kd.V_below (Kd.V_ext HO13032.out) hb); have n6_ := Aside0.mk (Kd.R_below (Kd.R_ext HO13035.out) hb); have n7_ := Aside0.mk (Kd.R_below (Kd.R_ext HO13040.out) hb); have n8_ := Aside0.mk (Kd.R_below (Kd.R_ext HO13043.out) hb); have n9_ := Aside0.mk (Kd.R_below (Kd.R_ext HO13048.out) hb); have n10_ := Aside0.mk (Kd.R_below (Kd.R_ext HO13051.out) hb); have n11_ := Aside0.mk (blk_below (blk_ext BK13002.out) hb); have n12_ := Aside0.mk (blk_below (blk_ext BK13006.out) hb); have n13_ := Aside0.mk (blk_below (blk_ext BK13029.out) hb); have n14_ := Aside0.mk (blk_below (blk_ext BK13037.out) hb); have n15_ := Aside0.mk (blk_below (blk_ext BK13045.out) hb); have n16_ := Aside0.mk (blk_below (blk_ext BK13053.out) hb); have n17_ := Aside0.mk (below_step (below_extB HB.out) hb); clear HO_13003001; clear HO_13007000; clear HO_13007001; clear HO13024; clear HO13027; clear HO13032; clear HO13035; clear HO13040; clear HO13043; clear HO13048; clear HO13051; clear BK13002; clear BK13006; clear BK13029; clear BK13037; clear BK13045; clear BK13053; clear HB; have HO_13003001 := n0_; have HO_13007000 := n1_; have HO_13007001 := n2_; have HO13024 := n3_; have HO13027 := n4_; have HO13032 := n5_; have HO13035 := n6_; have HO13040 := n7_; have HO13043 := n8_; have HO13048 := n9_; have HO13051 := n10_; have BK13002 := n11_; have BK13006 := n12_; have BK13029 := n13_; have BK13037 := n14_; have BK13045 := n15_; have BK13053 := n16_; have HB := n17_; clear n0_ n1_ n2_ n3_ n4_ n5_ n6_ n7_ n8_ n9_ n10_ n11_ n12_ n13_ n14_ n15_ n16_ n17_; (try clear hb); (try clear hb2); (try clear hk); (try clear hi)))
              go_meet
              case rel => exact ⟨_, (!t13055), (by first | rfl | (simp; done) | (simp [*]; done)), H', ⟨by have := HJ6.out; first | omega | exact Nat.le_refl _⟩, ⟨Kd.V_ext (Kd.V_mono HO_13007000.out (fun _ hk => ⟨hk.1.1.1.1.1.1.1.1.1, hk.1.1.1.1.1.1.1.1.2.2.2.2.1⟩))⟩, ⟨Kd.V_ext (Kd.V_mono HO_13007001.out (fun _ hk => ⟨hk.1.1.1.1.1.1.1.1.1, hk.1.1.1.1.1.1.1.1.2.2.2.2.1⟩))⟩, ⟨blk_ext BK13006.out⟩, ⟨below_extB HB.out⟩⟩
            · rw [if_neg c111] at H
              have c111b0 : (t13044 == t13052) = false := beq_eq_false_iff_ne.mpr c111
              have c111b1 : (t13044 != t13052) = true := bne_iff_ne.mpr c111
              have H' := Aside0.mk H
              clear H
              have hnb133 := NB13029_13002.out
              have hnc133 := NB13002_13029.out
              have hnb134 := NB13029_13006.out
              have hnc134 := NB13006_13029.out
              have hnb135 := NB13029_13037.out
              have hnc135 := NB13037_13029.out
              have hnb136 := NB13029_13045.out
              have hnc136 := NB13045_13029.out
              have hnb137 := NB13029_13053.out
              have hnc137 := NB13053_13029.out
              have hcz138_0 : w99.cell? ⟨gb13029, 0, none⟩ = some (.slice Ao69 t13022.length co69) := (blk_cell BK13029.out 0).trans rfl
              have hcz138_1 : w99.cell? ⟨gb13029, 1, none⟩ = some (.slice Ao73 t13025.length co73) := (blk_cell BK13029.out 1).trans rfl
              have hfz138_0 := blk_frozen BK13029.out 0
              have hfz138_1 := blk_frozen BK13029.out 1
              have hnb139 := NB13037_13002.out
              have hnc139 := NB13002_13037.out
              have hnb140 := NB13037_13006.out
              have hnc140 := NB13006_13037.out
              have hnb141 := NB13037_13045.out
              have hnc141 := NB13045_13037.out
              have hnb142 := NB13037_13053.out
              have hnc142 := NB13053_13037.out
              have hcz143_0 : w99.cell? ⟨gb13037, 0, none⟩ = some (.slice Ao79 t13030.length co79) := (blk_cell BK13037.out 0).trans rfl
              have hcz143_1 : w99.cell? ⟨gb13037, 1, none⟩ = some (.slice Ao84 t13033.length co84) := (blk_cell BK13037.out 1).trans rfl
              have hfz143_0 := blk_frozen BK13037.out 0
              have hfz143_1 := blk_frozen BK13037.out 1
              go_wp2_with (first | (go_at_call 18; (with_reducible refine (customsref33_SameDisk.calls _ _ t13022 _ _ t13025 _ _ t13030 _ _ t13033 true _ ?side1 ?side2 ?side3 ?side4 ?side5 ?side6 ?side7 ?side8 A109.out).mono ?_); (case side1 => refine (Kd.R_reads' (e := 5) (base := w.heap.size) (ok := fun k_ => (((((((w.heap.size ≤ k_) ∧ some k_ ≠ (.slice Ao73 t13025.length co73 : Value).ownBlock) ∧ some k_ ≠ (.slice Ao84 t13033.length co84 : Value).ownBlock) ∧ some k_ ≠ (.slice Ao89 t13038.length co89 : Value).ownBlock) ∧ some k_ ≠ (.slice Ao95 t13041.length co95 : Value).ownBlock) ∧ some k_ ≠ (.slice Ao100 t13046.length co100 : Value).ownBlock) ∧ some k_ ≠ (.slice Ao107 t13049.length co107 : Value).ownBlock)) (n := t13022.length) (c := co69) ?_).2.2; exact (Kd.R_ext ((Kd.R_mono (Kd.R_far (p := ⟨gb13053, 1, none⟩) (Kd.R_far (p := ⟨gb13053, 0, none⟩) (Kd.R_types HO13024.out BK13053.out (by decide)) (fun _ hk => hk.2) (.slice Ao100 t13046.length co100)) (fun _ hk => hk.2) (.slice Ao107 t13049.length co107)) (fun _ h_ => h_.1))))); (case side2 => exact (Kd.R_reads' HO13024.out).2.1); (case side3 => refine (Kd.R_reads' (e := 5) (base := w.heap.size) (ok := fun k_ => (((((((w.heap.size ≤ k_) ∧ some k_ ≠ (.slice Ao69 t13022.length co69 : Value).ownBlock) ∧ some k_ ≠ (.slice Ao84 t13033.length co84 : Value).ownBlock) ∧ some k_ ≠ (.slice Ao89 t13038.length co89 : Value).ownBlock) ∧ some k_ ≠ (.slice Ao95 t13041.length co95 : Value).ownBlock) ∧ some k_ ≠ (.slice Ao100 t13046.length co100 : Value).ownBlock) ∧ some k_ ≠ (.slice Ao107 t13049.length co107 : Value).ownBlock)) (n := t13025.length) (c := co73) ?_).2.2; exact (Kd.R_ext ((Kd.R_mono (Kd.R_far (p := ⟨gb13053, 1, none⟩) (Kd.R_far (p := ⟨gb13053, 0, none⟩) (Kd.R_types HO13027.out BK13053.out (by decide)) (fun _ hk => hk.2) (.slice Ao100 t13046.length co100)) (fun _ hk => hk.2) (.slice Ao107 t13049.length co107)) (fun _ h_ => h_.1))))); (case side4 => exact (Kd.R_reads' HO13027.out).2.1); (case side5 => refine (Kd.V_reads' (e := 5) (base := w.heap.size) (ok := fun k_ => (((((((((((P0_ k_ ∨ P2_0_ k_ ∨ P2_1_ k_ ∨ P3_1_ k_) ∨ w.heap.size ≤ k_)) ∧ (some k_ ≠ (.slice Ao84 t13033.length co84 : Value).ownBlock ∧ (some k_ ≠ (.slice Ao69 t13022.length co69 : Value).ownBlock ∧ (some k_ ≠ (.slice Ao73 t13025.length co73 : Value).ownBlock ∧ (k_ ≠ gb13002 ∧ (k_ ≠ gb13006 ∧ k_ ≠ gb13029)))))) ∧ k_ ≠ gb13037) ∧ some k_ ≠ (.slice Ao89 t13038.length co89 : Value).ownBlock) ∧ some k_ ≠ (.slice Ao95 t13041.length co95 : Value).ownBlock) ∧ k_ ≠ gb13045) ∧ some k_ ≠ (.slice Ao100 t13046.length co100 : Value).ownBlock) ∧ some k_ ≠ (.slice Ao107 t13049.length co107 : Value).ownBlock) ∧ k_ ≠ gb13053)) (n := t13030.length) (c := co79) ?_).2.2; exact (Kd.V_ext ((Kd.V_mono (Kd.V_far (p := ⟨gb13053, 1, none⟩) (Kd.V_far (p := ⟨gb13053, 0, none⟩) (Kd.V_mono HO13032.out (fun k_ hk => (⟨hk, hk.2⟩ : _ ∧ k_ ≠ gb13053))) (fun _ hk => hk.2) (.slice Ao100 t13046.length co100)) (fun _ hk => hk.2) (.slice Ao107 t13049.length co107)) (fun _ h_ => h_.1))))); (case side6 => exact (Kd.V_reads' HO13032.out).2.1); (case side7 => refine (Kd.R_reads' (e := 5) (base := w.heap.size) (ok := fun k_ => ((((((((w.heap.size ≤ k_) ∧ True) ∧ some k_ ≠ (.slice Ao69 t13022.length co69 : Value).ownBlock) ∧ some k_ ≠ (.slice Ao73 t13025.length co73 : Value).ownBlock) ∧ some k_ ≠ (.slice Ao89 t13038.length co89 : Value).ownBlock) ∧ some k_ ≠ (.slice Ao95 t13041.length co95 : Value).ownBlock) ∧ some k_ ≠ (.slice Ao100 t13046.length co100 : Value).ownBlock) ∧ some k_ ≠ (.slice Ao107 t13049.length co107 : Value).ownBlock)) (n := t13033.length) (c := co84) ?_).2.2; exact (Kd.R_ext ((Kd.R_mono (Kd.R_far (p := ⟨gb13053, 1, none⟩) (Kd.R_far (p := ⟨gb13053, 0, none⟩) (Kd.R_types HO13035.out BK13053.out (by decide)) (fun _ hk => hk.2) (.slice Ao100 t13046.length co100)) (fun _ hk => hk.2) (.slice Ao107 t13049.length co107)) (fun _ h_ => h_.1))))); (case side8 => exact (Kd.R_reads' HO13035.out).2.1); rintro e w144 ⟨rfl, hb⟩; have n0_ := Aside0.mk (Kd.V_below (Kd.V_ext ((Kd.V_mono (Kd.V_far (p := ⟨gb13053, 1, none⟩) (Kd.V_far (p := ⟨gb13053, 0, none⟩) (Kd.V_mono HO_13003001.out (fun k_ hk => (⟨hk, hk.2⟩ : _ ∧ k_ ≠ gb13053))) (fun _ hk => hk.2) (.slice Ao100 t13046.length co100)) (fun _ hk => hk.2) (.slice Ao107 t13049.length co107)) (fun _ h_ => h_.1)))) hb); have n1_ := Aside0.mk (Kd.V_below (Kd.V_ext ((Kd.V_mono (Kd.V_far (p := ⟨gb13053, 1, none⟩) (Kd.V_far (p := ⟨gb13053, 0, none⟩) (Kd.V_mono HO_13007000.out (fun k_ hk => (⟨hk, hk.2⟩ : _ ∧ k_ ≠ gb13053))) (fun _ hk => hk.2) (.slice Ao100 t13046.length co100)) (fun _ hk => hk.2) (.slice Ao107 t13049.length co107)) (fun _ h_ => h_.1)))) hb); have n2_ := Aside0.mk (Kd.V_below (Kd.V_ext ((Kd.V_mono (Kd.V_far (p := ⟨gb13053, 1, none⟩) (Kd.V_far (p := ⟨gb13053, 0, none⟩) (Kd.V_mono HO_13007001.out (fun k_ hk => (⟨hk, hk.2⟩ : _ ∧ k_ ≠ gb13053))) (fun _ hk => hk.2) (.slice Ao100 t13046.length co100)) (fun _ hk => hk.2) (.slice Ao107 t13049.length co107)) (fun _ h_ => h_.1)))) hb); have n3_ := Aside0.mk (Kd.R_below (Kd.R_ext ((Kd.R_mono (Kd.R_far (p := ⟨gb13053, 1, none⟩) (Kd.R_far (p := ⟨gb13053, 0, none⟩) (Kd.R_types HO13024.out BK13053.out (by decide)) (fun _ hk => hk.2) (.slice Ao100 t13046.length co100)) (fun _ hk => hk.2) (.slice Ao107 t13049.length co107)) (fun _ h_ => h_.1)))) hb); have n4_ := Aside0.mk (Kd.R_below (Kd.R_ext ((Kd.R_mono (Kd.R_far (p := ⟨gb13053, 1, none⟩) (Kd.R_far (p := ⟨gb13053, 0, none⟩) (Kd.R_types HO13027.out BK13053.out (by decide)) (fun _ hk => hk.2) (.slice Ao100 t13046.length co100)) (fun _ hk => hk.2) (.slice Ao107 t13049.length co107)) (fun _ h_ => h_.1)))) hb); have n5_ := Aside0.mk (Kd.V_below (Kd.V_ext ((Kd.V_mono (Kd.V_far (p := ⟨gb13053, 1, none⟩) (Kd.V_far (p := ⟨gb13053, 0, none⟩) (Kd.V_mono HO13032.out (fun k_ hk => (⟨hk, hk.2⟩ : _ ∧ k_ ≠ gb13053))) (fun _ hk => hk.2) (.slice Ao100 t13046.length co100)) (fun _ hk => hk.2) (.slice Ao107 t13049.length co107)) (fun _ h_ => h_.1)))) hb); have n6_ := Aside0.mk (Kd.R_below (Kd.R_ext ((Kd.R_mono (Kd.R_far (p := ⟨gb13053, 1, none⟩) (Kd.R_far (p := ⟨gb13053, 0, none⟩) (Kd.R_types HO13035.out BK13053.out (by decide)) (fun _ hk => hk.2) (.slice Ao100 t13046.length co100)) (fun _ hk => hk.2) (.slice Ao107 t13049.length co107)) (fun _ h_ => h_.1)))) hb); have n7_ := Aside0.mk (Kd.R_below (Kd.R_ext ((Kd.R_mono (Kd.R_far (p := ⟨gb13053, 1, none⟩) (Kd.R_far (p := ⟨gb13053, 0, none⟩) (Kd.R_types HO13040.out BK13053.out (by decide)) (fun _ hk => hk.2) (.slice Ao100 t13046.length co100)) (fun _ hk => hk.2) (.slice Ao107 t13049.length co107)) (fun _ h_ => h_.1)))) hb); have n8_ := Aside0.mk (Kd.R_below (Kd.R_ext ((Kd.R_mono (Kd.R_far (p := ⟨gb13053, 1, none⟩) (Kd.R_far (p := ⟨gb13053, 0, none⟩) (Kd.R_types HO13043.out BK13053.out (by decide)) (fun _ hk => hk.2) (.slice Ao100 t13046.length co100)) (fun _ hk => hk.2) (.slice Ao107 t13049.length co107)) (fun _ h_ => h_.1)))) hb); have n9_ := Aside0.mk (Kd.R_below (Kd.R_ext ((Kd.R_mono (Kd.R_far (p := ⟨gb13053, 1, none⟩) (Kd.R_far (p := ⟨gb13053, 0, none⟩) (Kd.R_types HO13048.out BK13053.out (by decide)) (fun _ hk => hk.2) (.slice Ao100 t13046.length co100)) (fun _ hk => hk.2) (.slice Ao107 t13049.length co107)) (fun _ h_ => h_.1)))) hb); have n10_ := Aside0.mk (Kd.R_below (Kd.R_ext ((Kd.R_mono (Kd.R_far (p := ⟨gb13053, 1, none⟩) (Kd.R_far (p := ⟨gb13053, 0, none⟩) (Kd.R_types HO13051.out BK13053.out (by decide)) (fun _ hk => hk.2) (.slice Ao100 t13046.length co100)) (fun _ hk => hk.2) (.slice Ao107 t13049.length co107)) (fun _ h_ => h_.1)))) hb); have n11_ := Aside0.mk (blk_below (g := gb13002) (o := .cells #[.int .i64 a3_0, .slice A3_1 l3_1.length c3_1] 57 (0, 0)) (by (with_reducible repeat (first | refine blk_drewN ?_ _ | refine blk_drew ?_ | refine blk_alloc ?_ _)); refine blk_far ?_ NB13002_13053.out _; (with_reducible repeat (first | refine blk_drewN ?_ _ | refine blk_drew ?_ | refine blk_alloc ?_ _)); refine blk_far ?_ NB13002_13053.out _; exact blk_ext BK13002.out) hb); have n12_ := Aside0.mk (blk_below (g := gb13006) (o := .cells #[.slice Ao65 x13007000_6.length co65, .slice Ao66 x13007001_6.length co66] 24 (0, 0)) (by (with_reducible repeat (first | refine blk_drewN ?_ _ | refine blk_drew ?_ | refine blk_alloc ?_ _)); refine blk_far ?_ NB13006_13053.out _; (with_reducible repeat (first | refine blk_drewN ?_ _ | refine blk_drew ?_ | refine blk_alloc ?_ _)); refine blk_far ?_ NB13006_13053.out _; exact blk_ext BK13006.out) hb); have n13_ := Aside0.mk (blk_below (g := gb13029) (o := .cells #[.slice Ao69 t13022.length co69, .slice Ao73 t13025.length co73] 24 (0, 0)) (by (with_reducible repeat (first | refine blk_drewN ?_ _ | refine blk_drew ?_ | refine blk_alloc ?_ _)); refine blk_far ?_ NB13029_13053.out _; (with_reducible repeat (first | refine blk_drewN ?_ _ | refine blk_drew ?_ | refine blk_alloc ?_ _)); refine blk_far ?_ NB13029_13053.out _; exact blk_ext BK13029.out) hb); have n14_ := Aside0.mk (blk_below (g := gb13037) (o := .cells #[.slice Ao79 t13030.length co79, .slice Ao84 t13033.length co84] 24 (0, 0)) (by (with_reducible repeat (first | refine blk_drewN ?_ _ | refine blk_drew ?_ | refine blk_alloc ?_ _)); refine blk_far ?_ NB13037_13053.out _; (with_reducible repeat (first | refine blk_drewN ?_ _ | refine blk_drew ?_ | refine blk_alloc ?_ _)); refine blk_far ?_ NB13037_13053.out _; exact blk_ext BK13037.out) hb); have n15_ := Aside0.mk (blk_below (g := gb13045) (o := .cells #[.slice Ao89 t13038.length co89, .slice Ao95 t13041.length co95] 24 (0, 0)) (by (with_reducible repeat (first | refine blk_drewN ?_ _ | refine blk_drew ?_ | refine blk_alloc ?_ _)); refine blk_far ?_ NB13045_13053.out _; (with_reducible repeat (first | refine blk_drewN ?_ _ | refine blk_drew ?_ | refine blk_alloc ?_ _)); refine blk_far ?_ NB13045_13053.out _; exact blk_ext BK13045.out) hb); have n16_ := Aside0.mk (blk_below (g := gb13053) (o := .cells #[.slice Ao100 t13046.length co100, .slice Ao107 t13049.length co107] 24 (0, 0)) (by (with_reducible repeat (first | refine blk_drewN ?_ _ | refine blk_drew ?_ | refine blk_alloc ?_ _)); refine blk_put (cs := #[.slice Ao100 t13046.length co100, .slice none 0 0]) ?_ 1 _ rfl; (with_reducible repeat (first | refine blk_drewN ?_ _ | refine blk_drew ?_ | refine blk_alloc ?_ _)); refine blk_put (cs := #[.slice none 0 0, .slice none 0 0]) ?_ 0 _ rfl; exact blk_ext BK13053.out) hb); have n17_ := Aside0.mk (below_step (below_extB HB.out) hb); clear HO_13003001; clear HO_13007000; clear HO_13007001; clear HO13024; clear HO13027; clear HO13032; clear HO13035; clear HO13040; clear HO13043; clear HO13048; clear HO13051; clear BK13002; clear BK13006; clear BK13029; clear BK13037; clear BK13045; clear BK13053; clear HB; have HO_13003001 := n0_; have HO_13007000 := n1_; have HO_13007001 := n2_; have HO13024 := n3_; have HO13027 := n4_; have HO13032 := n5_; have HO13035 := n6_; have HO13040 := n7_; have HO13043 := n8_; have HO13048 := n9_; have HO13051 := n10_; have BK13002 := n11_; have BK13006 := n12_; have BK13029 := n13_; have BK13037 := n14_; have BK13045 := n15_; have BK13053 := n16_; have HB := n17_; clear n0_ n1_ n2_ n3_ n4_ n5_ n6_ n7_ n8_ n9_ n10_ n11_ n12_ n13_ n14_ n15_ n16_ n17_; (try clear hb); (try clear hb2); (try clear hk); (try clear hi)))
              go_meet
              case rel => exact ⟨_, (true), (by first | rfl | (simp; done) | (simp [*]; done)), H', ⟨by have := HJ6.out; first | omega | exact Nat.le_refl _⟩, ⟨Kd.V_ext (Kd.V_mono HO_13007000.out (fun _ hk => ⟨hk.1.1.1.1.1.1.1.1.1, hk.1.1.1.1.1.1.1.1.2.2.2.2.1⟩))⟩, ⟨Kd.V_ext (Kd.V_mono HO_13007001.out (fun _ hk => ⟨hk.1.1.1.1.1.1.1.1.1, hk.1.1.1.1.1.1.1.1.2.2.2.2.1⟩))⟩, ⟨blk_ext BK13006.out⟩, ⟨below_extB HB.out⟩⟩
          · replace c110 := Bool.eq_false_iff.mpr c110
            subst c110
            have H1 : (customslaw34_JournalOpen.j4 kj6 true x13007000_6 x13007001_6) = some r := by rw [if_neg (show ¬ (false = true) by decide)] at H; exact H
            clear H
            have H := H1
            clear H1
            have H' := Aside0.mk H
            clear H
            have hnb145 := NB13029_13002.out
            have hnc145 := NB13002_13029.out
            have hnb146 := NB13029_13006.out
            have hnc146 := NB13006_13029.out
            have hnb147 := NB13029_13037.out
            have hnc147 := NB13037_13029.out
            have hnb148 := NB13029_13045.out
            have hnc148 := NB13045_13029.out
            have hnb149 := NB13029_13053.out
            have hnc149 := NB13053_13029.out
            have hcz150_0 : w99.cell? ⟨gb13029, 0, none⟩ = some (.slice Ao69 t13022.length co69) := (blk_cell BK13029.out 0).trans rfl
            have hcz150_1 : w99.cell? ⟨gb13029, 1, none⟩ = some (.slice Ao73 t13025.length co73) := (blk_cell BK13029.out 1).trans rfl
            have hfz150_0 := blk_frozen BK13029.out 0
            have hfz150_1 := blk_frozen BK13029.out 1
            have hnb151 := NB13037_13002.out
            have hnc151 := NB13002_13037.out
            have hnb152 := NB13037_13006.out
            have hnc152 := NB13006_13037.out
            have hnb153 := NB13037_13045.out
            have hnc153 := NB13045_13037.out
            have hnb154 := NB13037_13053.out
            have hnc154 := NB13053_13037.out
            have hcz155_0 : w99.cell? ⟨gb13037, 0, none⟩ = some (.slice Ao79 t13030.length co79) := (blk_cell BK13037.out 0).trans rfl
            have hcz155_1 : w99.cell? ⟨gb13037, 1, none⟩ = some (.slice Ao84 t13033.length co84) := (blk_cell BK13037.out 1).trans rfl
            have hfz155_0 := blk_frozen BK13037.out 0
            have hfz155_1 := blk_frozen BK13037.out 1
            go_wp2_with (first | (go_at_call 18; (with_reducible refine (customsref33_SameDisk.calls _ _ t13022 _ _ t13025 _ _ t13030 _ _ t13033 false _ ?side1 ?side2 ?side3 ?side4 ?side5 ?side6 ?side7 ?side8 A109.out).mono ?_); (case side1 => refine (Kd.R_reads' (e := 5) (base := w.heap.size) (ok := fun k_ => (((((((w.heap.size ≤ k_) ∧ some k_ ≠ (.slice Ao73 t13025.length co73 : Value).ownBlock) ∧ some k_ ≠ (.slice Ao84 t13033.length co84 : Value).ownBlock) ∧ some k_ ≠ (.slice Ao89 t13038.length co89 : Value).ownBlock) ∧ some k_ ≠ (.slice Ao95 t13041.length co95 : Value).ownBlock) ∧ some k_ ≠ (.slice Ao100 t13046.length co100 : Value).ownBlock) ∧ some k_ ≠ (.slice Ao107 t13049.length co107 : Value).ownBlock)) (n := t13022.length) (c := co69) ?_).2.2; exact (Kd.R_ext ((Kd.R_mono (Kd.R_far (p := ⟨gb13053, 1, none⟩) (Kd.R_far (p := ⟨gb13053, 0, none⟩) (Kd.R_types HO13024.out BK13053.out (by decide)) (fun _ hk => hk.2) (.slice Ao100 t13046.length co100)) (fun _ hk => hk.2) (.slice Ao107 t13049.length co107)) (fun _ h_ => h_.1))))); (case side2 => exact (Kd.R_reads' HO13024.out).2.1); (case side3 => refine (Kd.R_reads' (e := 5) (base := w.heap.size) (ok := fun k_ => (((((((w.heap.size ≤ k_) ∧ some k_ ≠ (.slice Ao69 t13022.length co69 : Value).ownBlock) ∧ some k_ ≠ (.slice Ao84 t13033.length co84 : Value).ownBlock) ∧ some k_ ≠ (.slice Ao89 t13038.length co89 : Value).ownBlock) ∧ some k_ ≠ (.slice Ao95 t13041.length co95 : Value).ownBlock) ∧ some k_ ≠ (.slice Ao100 t13046.length co100 : Value).ownBlock) ∧ some k_ ≠ (.slice Ao107 t13049.length co107 : Value).ownBlock)) (n := t13025.length) (c := co73) ?_).2.2; exact (Kd.R_ext ((Kd.R_mono (Kd.R_far (p := ⟨gb13053, 1, none⟩) (Kd.R_far (p := ⟨gb13053, 0, none⟩) (Kd.R_types HO13027.out BK13053.out (by decide)) (fun _ hk => hk.2) (.slice Ao100 t13046.length co100)) (fun _ hk => hk.2) (.slice Ao107 t13049.length co107)) (fun _ h_ => h_.1))))); (case side4 => exact (Kd.R_reads' HO13027.out).2.1); (case side5 => refine (Kd.V_reads' (e := 5) (base := w.heap.size) (ok := fun k_ => (((((((((((P0_ k_ ∨ P2_0_ k_ ∨ P2_1_ k_ ∨ P3_1_ k_) ∨ w.heap.size ≤ k_)) ∧ (some k_ ≠ (.slice Ao84 t13033.length co84 : Value).ownBlock ∧ (some k_ ≠ (.slice Ao69 t13022.length co69 : Value).ownBlock ∧ (some k_ ≠ (.slice Ao73 t13025.length co73 : Value).ownBlock ∧ (k_ ≠ gb13002 ∧ (k_ ≠ gb13006 ∧ k_ ≠ gb13029)))))) ∧ k_ ≠ gb13037) ∧ some k_ ≠ (.slice Ao89 t13038.length co89 : Value).ownBlock) ∧ some k_ ≠ (.slice Ao95 t13041.length co95 : Value).ownBlock) ∧ k_ ≠ gb13045) ∧ some k_ ≠ (.slice Ao100 t13046.length co100 : Value).ownBlock) ∧ some k_ ≠ (.slice Ao107 t13049.length co107 : Value).ownBlock) ∧ k_ ≠ gb13053)) (n := t13030.length) (c := co79) ?_).2.2; exact (Kd.V_ext ((Kd.V_mono (Kd.V_far (p := ⟨gb13053, 1, none⟩) (Kd.V_far (p := ⟨gb13053, 0, none⟩) (Kd.V_mono HO13032.out (fun k_ hk => (⟨hk, hk.2⟩ : _ ∧ k_ ≠ gb13053))) (fun _ hk => hk.2) (.slice Ao100 t13046.length co100)) (fun _ hk => hk.2) (.slice Ao107 t13049.length co107)) (fun _ h_ => h_.1))))); (case side6 => exact (Kd.V_reads' HO13032.out).2.1); (case side7 => refine (Kd.R_reads' (e := 5) (base := w.heap.size) (ok := fun k_ => ((((((((w.heap.size ≤ k_) ∧ True) ∧ some k_ ≠ (.slice Ao69 t13022.length co69 : Value).ownBlock) ∧ some k_ ≠ (.slice Ao73 t13025.length co73 : Value).ownBlock) ∧ some k_ ≠ (.slice Ao89 t13038.length co89 : Value).ownBlock) ∧ some k_ ≠ (.slice Ao95 t13041.length co95 : Value).ownBlock) ∧ some k_ ≠ (.slice Ao100 t13046.length co100 : Value).ownBlock) ∧ some k_ ≠ (.slice Ao107 t13049.length co107 : Value).ownBlock)) (n := t13033.length) (c := co84) ?_).2.2; exact (Kd.R_ext ((Kd.R_mono (Kd.R_far (p := ⟨gb13053, 1, none⟩) (Kd.R_far (p := ⟨gb13053, 0, none⟩) (Kd.R_types HO13035.out BK13053.out (by decide)) (fun _ hk => hk.2) (.slice Ao100 t13046.length co100)) (fun _ hk => hk.2) (.slice Ao107 t13049.length co107)) (fun _ h_ => h_.1))))); (case side8 => exact (Kd.R_reads' HO13035.out).2.1); rintro e w156 ⟨rfl, hb⟩; have n0_ := Aside0.mk (Kd.V_below (Kd.V_ext ((Kd.V_mono (Kd.V_far (p := ⟨gb13053, 1, none⟩) (Kd.V_far (p := ⟨gb13053, 0, none⟩) (Kd.V_mono HO_13003001.out (fun k_ hk => (⟨hk, hk.2⟩ : _ ∧ k_ ≠ gb13053))) (fun _ hk => hk.2) (.slice Ao100 t13046.length co100)) (fun _ hk => hk.2) (.slice Ao107 t13049.length co107)) (fun _ h_ => h_.1)))) hb); have n1_ := Aside0.mk (Kd.V_below (Kd.V_ext ((Kd.V_mono (Kd.V_far (p := ⟨gb13053, 1, none⟩) (Kd.V_far (p := ⟨gb13053, 0, none⟩) (Kd.V_mono HO_13007000.out (fun k_ hk => (⟨hk, hk.2⟩ : _ ∧ k_ ≠ gb13053))) (fun _ hk => hk.2) (.slice Ao100 t13046.length co100)) (fun _ hk => hk.2) (.slice Ao107 t13049.length co107)) (fun _ h_ => h_.1)))) hb); have n2_ := Aside0.mk (Kd.V_below (Kd.V_ext ((Kd.V_mono (Kd.V_far (p := ⟨gb13053, 1, none⟩) (Kd.V_far (p := ⟨gb13053, 0, none⟩) (Kd.V_mono HO_13007001.out (fun k_ hk => (⟨hk, hk.2⟩ : _ ∧ k_ ≠ gb13053))) (fun _ hk => hk.2) (.slice Ao100 t13046.length co100)) (fun _ hk => hk.2) (.slice Ao107 t13049.length co107)) (fun _ h_ => h_.1)))) hb); have n3_ := Aside0.mk (Kd.R_below (Kd.R_ext ((Kd.R_mono (Kd.R_far (p := ⟨gb13053, 1, none⟩) (Kd.R_far (p := ⟨gb13053, 0, none⟩) (Kd.R_types HO13024.out BK13053.out (by decide)) (fun _ hk => hk.2) (.slice Ao100 t13046.length co100)) (fun _ hk => hk.2) (.slice Ao107 t13049.length co107)) (fun _ h_ => h_.1)))) hb); have n4_ := Aside0.mk (Kd.R_below (Kd.R_ext ((Kd.R_mono (Kd.R_far (p := ⟨gb13053, 1, none⟩) (Kd.R_far (p := ⟨gb13053, 0, none⟩) (Kd.R_types HO13027.out BK13053.out (by decide)) (fun _ hk => hk.2) (.slice Ao100 t13046.length co100)) (fun _ hk => hk.2) (.slice Ao107 t13049.length co107)) (fun _ h_ => h_.1)))) hb); have n5_ := Aside0.mk (Kd.V_below (Kd.V_ext ((Kd.V_mono (Kd.V_far (p := ⟨gb13053, 1, none⟩) (Kd.V_far (p := ⟨gb13053, 0, none⟩) (Kd.V_mono HO13032.out (fun k_ hk => (⟨hk, hk.2⟩ : _ ∧ k_ ≠ gb13053))) (fun _ hk => hk.2) (.slice Ao100 t13046.length co100)) (fun _ hk => hk.2) (.slice Ao107 t13049.length co107)) (fun _ h_ => h_.1)))) hb); have n6_ := Aside0.mk (Kd.R_below (Kd.R_ext ((Kd.R_mono (Kd.R_far (p := ⟨gb13053, 1, none⟩) (Kd.R_far (p := ⟨gb13053, 0, none⟩) (Kd.R_types HO13035.out BK13053.out (by decide)) (fun _ hk => hk.2) (.slice Ao100 t13046.length co100)) (fun _ hk => hk.2) (.slice Ao107 t13049.length co107)) (fun _ h_ => h_.1)))) hb); have n7_ := Aside0.mk (Kd.R_below (Kd.R_ext ((Kd.R_mono (Kd.R_far (p := ⟨gb13053, 1, none⟩) (Kd.R_far (p := ⟨gb13053, 0, none⟩) (Kd.R_types HO13040.out BK13053.out (by decide)) (fun _ hk => hk.2) (.slice Ao100 t13046.length co100)) (fun _ hk => hk.2) (.slice Ao107 t13049.length co107)) (fun _ h_ => h_.1)))) hb); have n8_ := Aside0.mk (Kd.R_below (Kd.R_ext ((Kd.R_mono (Kd.R_far (p := ⟨gb13053, 1, none⟩) (Kd.R_far (p := ⟨gb13053, 0, none⟩) (Kd.R_types HO13043.out BK13053.out (by decide)) (fun _ hk => hk.2) (.slice Ao100 t13046.length co100)) (fun _ hk => hk.2) (.slice Ao107 t13049.length co107)) (fun _ h_ => h_.1)))) hb); have n9_ := Aside0.mk (Kd.R_below (Kd.R_ext ((Kd.R_mono (Kd.R_far (p := ⟨gb13053, 1, none⟩) (Kd.R_far (p := ⟨gb13053, 0, none⟩) (Kd.R_types HO13048.out BK13053.out (by decide)) (fun _ hk => hk.2) (.slice Ao100 t13046.length co100)) (fun _ hk => hk.2) (.slice Ao107 t13049.length co107)) (fun _ h_ => h_.1)))) hb); have n10_ := Aside0.mk (Kd.R_below (Kd.R_ext ((Kd.R_mono (Kd.R_far (p := ⟨gb13053, 1, none⟩) (Kd.R_far (p := ⟨gb13053, 0, none⟩) (Kd.R_types HO13051.out BK13053.out (by decide)) (fun _ hk => hk.2) (.slice Ao100 t13046.length co100)) (fun _ hk => hk.2) (.slice Ao107 t13049.length co107)) (fun _ h_ => h_.1)))) hb); have n11_ := Aside0.mk (blk_below (g := gb13002) (o := .cells #[.int .i64 a3_0, .slice A3_1 l3_1.length c3_1] 57 (0, 0)) (by (with_reducible repeat (first | refine blk_drewN ?_ _ | refine blk_drew ?_ | refine blk_alloc ?_ _)); refine blk_far ?_ NB13002_13053.out _; (with_reducible repeat (first | refine blk_drewN ?_ _ | refine blk_drew ?_ | refine blk_alloc ?_ _)); refine blk_far ?_ NB13002_13053.out _; exact blk_ext BK13002.out) hb); have n12_ := Aside0.mk (blk_below (g := gb13006) (o := .cells #[.slice Ao65 x13007000_6.length co65, .slice Ao66 x13007001_6.length co66] 24 (0, 0)) (by (with_reducible repeat (first | refine blk_drewN ?_ _ | refine blk_drew ?_ | refine blk_alloc ?_ _)); refine blk_far ?_ NB13006_13053.out _; (with_reducible repeat (first | refine blk_drewN ?_ _ | refine blk_drew ?_ | refine blk_alloc ?_ _)); refine blk_far ?_ NB13006_13053.out _; exact blk_ext BK13006.out) hb); have n13_ := Aside0.mk (blk_below (g := gb13029) (o := .cells #[.slice Ao69 t13022.length co69, .slice Ao73 t13025.length co73] 24 (0, 0)) (by (with_reducible repeat (first | refine blk_drewN ?_ _ | refine blk_drew ?_ | refine blk_alloc ?_ _)); refine blk_far ?_ NB13029_13053.out _; (with_reducible repeat (first | refine blk_drewN ?_ _ | refine blk_drew ?_ | refine blk_alloc ?_ _)); refine blk_far ?_ NB13029_13053.out _; exact blk_ext BK13029.out) hb); have n14_ := Aside0.mk (blk_below (g := gb13037) (o := .cells #[.slice Ao79 t13030.length co79, .slice Ao84 t13033.length co84] 24 (0, 0)) (by (with_reducible repeat (first | refine blk_drewN ?_ _ | refine blk_drew ?_ | refine blk_alloc ?_ _)); refine blk_far ?_ NB13037_13053.out _; (with_reducible repeat (first | refine blk_drewN ?_ _ | refine blk_drew ?_ | refine blk_alloc ?_ _)); refine blk_far ?_ NB13037_13053.out _; exact blk_ext BK13037.out) hb); have n15_ := Aside0.mk (blk_below (g := gb13045) (o := .cells #[.slice Ao89 t13038.length co89, .slice Ao95 t13041.length co95] 24 (0, 0)) (by (with_reducible repeat (first | refine blk_drewN ?_ _ | refine blk_drew ?_ | refine blk_alloc ?_ _)); refine blk_far ?_ NB13045_13053.out _; (with_reducible repeat (first | refine blk_drewN ?_ _ | refine blk_drew ?_ | refine blk_alloc ?_ _)); refine blk_far ?_ NB13045_13053.out _; exact blk_ext BK13045.out) hb); have n16_ := Aside0.mk (blk_below (g := gb13053) (o := .cells #[.slice Ao100 t13046.length co100, .slice Ao107 t13049.length co107] 24 (0, 0)) (by (with_reducible repeat (first | refine blk_drewN ?_ _ | refine blk_drew ?_ | refine blk_alloc ?_ _)); refine blk_put (cs := #[.slice Ao100 t13046.length co100, .slice none 0 0]) ?_ 1 _ rfl; (with_reducible repeat (first | refine blk_drewN ?_ _ | refine blk_drew ?_ | refine blk_alloc ?_ _)); refine blk_put (cs := #[.slice none 0 0, .slice none 0 0]) ?_ 0 _ rfl; exact blk_ext BK13053.out) hb); have n17_ := Aside0.mk (below_step (below_extB HB.out) hb); clear HO_13003001; clear HO_13007000; clear HO_13007001; clear HO13024; clear HO13027; clear HO13032; clear HO13035; clear HO13040; clear HO13043; clear HO13048; clear HO13051; clear BK13002; clear BK13006; clear BK13029; clear BK13037; clear BK13045; clear BK13053; clear HB; have HO_13003001 := n0_; have HO_13007000 := n1_; have HO_13007001 := n2_; have HO13024 := n3_; have HO13027 := n4_; have HO13032 := n5_; have HO13035 := n6_; have HO13040 := n7_; have HO13043 := n8_; have HO13048 := n9_; have HO13051 := n10_; have BK13002 := n11_; have BK13006 := n12_; have BK13029 := n13_; have BK13037 := n14_; have BK13045 := n15_; have BK13053 := n16_; have HB := n17_; clear n0_ n1_ n2_ n3_ n4_ n5_ n6_ n7_ n8_ n9_ n10_ n11_ n12_ n13_ n14_ n15_ n16_ n17_; (try clear hb); (try clear hb2); (try clear hk); (try clear hi)))
            go_meet
            case rel => exact ⟨_, (true), (by first | rfl | (simp; done) | (simp [*]; done)), H', ⟨by have := HJ6.out; first | omega | exact Nat.le_refl _⟩, ⟨Kd.V_ext (Kd.V_mono HO_13007000.out (fun _ hk => ⟨hk.1.1.1.1.1.1.1.1.1, hk.1.1.1.1.1.1.1.1.2.2.2.2.1⟩))⟩, ⟨Kd.V_ext (Kd.V_mono HO_13007001.out (fun _ hk => ⟨hk.1.1.1.1.1.1.1.1.1, hk.1.1.1.1.1.1.1.1.2.2.2.2.1⟩))⟩, ⟨blk_ext BK13006.out⟩, ⟨below_extB HB.out⟩⟩
        · rw [if_neg c108] at H
          have c108b0 : (t13028 == t13036) = false := beq_eq_false_iff_ne.mpr c108
          have c108b1 : (t13028 != t13036) = true := bne_iff_ne.mpr c108
          (first | rw [c108b0] | (simp only [i64_w, i32_w]; rw [c108b0]) | skip)
          have H' := Aside0.mk H
          clear H
          go_wp2
          go_meet
          case rel => exact ⟨_, (true), (by first | rfl | (simp; done) | (simp [*]; done)), H', ⟨by have := HJ6.out; first | omega | exact Nat.le_refl _⟩, ⟨Kd.V_ext (Kd.V_mono (Kd.V_far (p := ⟨gb13053, 1, none⟩) (Kd.V_far (p := ⟨gb13053, 0, none⟩) (Kd.V_mono HO_13007000.out (fun k_ hk => (⟨hk, hk.2⟩ : _ ∧ k_ ≠ gb13053))) (fun _ hk => hk.2) (.slice Ao100 t13046.length co100)) (fun _ hk => hk.2) (.slice Ao107 t13049.length co107)) (fun _ hk => ⟨hk.1.1.1.1.1.1.1.1.1.1, hk.1.1.1.1.1.1.1.1.1.2.2.2.2.1⟩))⟩, ⟨Kd.V_ext (Kd.V_mono (Kd.V_far (p := ⟨gb13053, 1, none⟩) (Kd.V_far (p := ⟨gb13053, 0, none⟩) (Kd.V_mono HO_13007001.out (fun k_ hk => (⟨hk, hk.2⟩ : _ ∧ k_ ≠ gb13053))) (fun _ hk => hk.2) (.slice Ao100 t13046.length co100)) (fun _ hk => hk.2) (.slice Ao107 t13049.length co107)) (fun _ hk => ⟨hk.1.1.1.1.1.1.1.1.1.1, hk.1.1.1.1.1.1.1.1.1.2.2.2.2.1⟩))⟩, ⟨by (with_reducible repeat (first | refine blk_drewN ?_ _ | refine blk_drew ?_ | refine blk_alloc ?_ _)); refine blk_far ?_ NB13006_13053.out _; (with_reducible repeat (first | refine blk_drewN ?_ _ | refine blk_drew ?_ | refine blk_alloc ?_ _)); refine blk_far ?_ NB13006_13053.out _; exact blk_ext BK13006.out⟩, ⟨below_extB HB.out⟩⟩
      case rest =>
        clear HC61
        try clear c1
        try clear p1
        try clear q1
        try clear hx1
        try clear c2
        try clear p2
        try clear c3
        try clear c4
        try clear c5
        try clear c6
        try clear p6
        try clear c7
        try clear c8
        try clear c9
        try clear c10
        try clear c11
        try clear c12
        try clear c13
        try clear p13
        try clear q13
        try clear hx13
        try clear c14
        try clear c15
        try clear c17
        try clear c18
        try clear c19
        try clear c20
        try clear c21
        try clear c21b0
        try clear c24
        try clear c24b0
        try clear c25
        try clear c25b0
        try clear c27
        try clear c28
        try clear c28b0
        try clear c29
        try clear c29b0
        try clear c31
        try clear c31b0
        try clear c31b1
        try clear c41
        try clear c42
        try clear c57
        try clear c58
        try clear c59
        try clear c60
        try clear c62
        try clear p64
        try clear c70
        try clear c71
        try clear c80
        try clear c81
        try clear c82
        try clear c90
        try clear c91
        try clear c92
        try clear c93
        try clear c101
        try clear c102
        try clear c103
        try clear c104
        try clear c105
        try clear c108
        try clear c108b0
        try clear c108b1
        try clear c110
        try clear c111
        try clear c111b0
        try clear c111b1
        try clear c113
        try clear c114
        try clear c115
        try clear c116
        try clear c117
        try clear c119
        try clear c120
        try clear c121
        try clear c122
        try clear c125
        try clear c126
        try clear c127
        try clear c129
        try clear c130
        try clear p130
        try clear q130
        try clear hx130
        try clear c133
        try clear c134
        try clear c135
        try clear c136
        try clear c137
        try clear c139
        try clear c140
        try clear c141
        try clear c142
        try clear c145
        try clear c146
        try clear c147
        try clear c148
        try clear c149
        try clear c151
        try clear c152
        try clear c153
        try clear c154
        try clear hcz106_0
        try clear hcz106_1
        try clear hcz118_0
        try clear hcz118_1
        try clear hcz123_0
        try clear hcz123_1
        try clear hcz128_0
        try clear hcz128_1
        try clear hcz12_0
        try clear hcz12_1
        try clear hcz131_0
        try clear hcz131_1
        try clear hcz138_0
        try clear hcz138_1
        try clear hcz143_0
        try clear hcz143_1
        try clear hcz150_0
        try clear hcz150_1
        try clear hcz155_0
        try clear hcz155_1
        try clear hcz16_0
        try clear hcz16_1
        try clear hcz20_0
        try clear hcz20_1
        try clear hcz43_0
        try clear hcz43_1
        try clear hcz46_0
        try clear hcz46_1
        try clear hcz63_0
        try clear hcz63_1
        try clear hcz64_0
        try clear hcz64_1
        try clear hcz72_0
        try clear hcz72_1
        try clear hcz75_0
        try clear hcz75_1
        try clear hcz76_0
        try clear hcz76_1
        try clear hcz83_0
        try clear hcz83_1
        try clear hcz85_0
        try clear hcz85_1
        try clear hcz86_0
        try clear hcz86_1
        try clear hcz94_0
        try clear hcz94_1
        try clear hcz96_0
        try clear hcz96_1
        try clear hcz97_0
        try clear hcz97_1
        try clear hfz106_0
        try clear hfz106_1
        try clear hfz118_0
        try clear hfz118_1
        try clear hfz123_0
        try clear hfz123_1
        try clear hfz128_0
        try clear hfz128_1
        try clear hfz12_0
        try clear hfz12_1
        try clear hfz131_0
        try clear hfz131_1
        try clear hfz138_0
        try clear hfz138_1
        try clear hfz143_0
        try clear hfz143_1
        try clear hfz150_0
        try clear hfz150_1
        try clear hfz155_0
        try clear hfz155_1
        try clear hfz16_0
        try clear hfz16_1
        try clear hfz20_0
        try clear hfz20_1
        try clear hfz43_0
        try clear hfz43_1
        try clear hfz46_0
        try clear hfz46_1
        try clear hfz63_0
        try clear hfz63_1
        try clear hfz64_0
        try clear hfz64_1
        try clear hfz72_0
        try clear hfz72_1
        try clear hfz75_0
        try clear hfz75_1
        try clear hfz76_0
        try clear hfz76_1
        try clear hfz83_0
        try clear hfz83_1
        try clear hfz85_0
        try clear hfz85_1
        try clear hfz86_0
        try clear hfz86_1
        try clear hfz94_0
        try clear hfz94_1
        try clear hfz96_0
        try clear hfz96_1
        try clear hfz97_0
        try clear hfz97_1
        try clear hx13007_0
        try clear hx13008_0
        try clear p1
        try clear p13
        try clear p13007
        try clear p13008
        try clear p2
        try clear p6
        try clear q1
        try clear q13
        try clear q13007
        try clear q13008
        obtain ⟨kq, x113_60, rfl, HA, HJ60, HO_13007000, HO_13007001, BK13006, HB⟩ := hcut
        cases kq with
        | zero => exact absurd HA.out (by simp [customslaw34_JournalOpen.j4])
        | succ kj60 =>
          have H := HA.out
          clear HA
          simp only [customslaw34_JournalOpen.j4] at H
          by_cases c157 : x113_60 = true
          · subst c157
            have H1 : (none) = some r := by rw [if_pos rfl] at H; exact H
            clear H
            have H := H1
            clear H1
            exact absurd H (by simp)
          · replace c157 := Bool.eq_false_iff.mpr c157
            subst c157
            have H1 : ((journal_Open.f kj60 x13007000_6 x13007001_6).bind fun bt13056 => ((customsref33_Open.f kj60 x13007000_6 x13007001_6).bind fun bt13070 => ((customsref33_SameDisk.f bt13056.1 bt13056.2.1 bt13070.1 bt13070.2.1).bind fun t13084 => (if t13084 = true then ((customsref33_SameBytes.f bt13056.2.2.1 bt13070.2.2.1).bind fun t13085 => (if t13085 = true then (if (bt13056.2.2.2.1 == bt13070.2.2.2.1) = true then ((customsref33_SameRecords.f kj60 bt13056.2.2.2.2 bt13070.2.2.2.2).bind fun t13086 => (if t13086 = true then ((customslaw34_awake.f kj60).bind fun t13087 => (some t13087)) else (none))) else (none)) else (none))) else (none))))) = some r := by rw [if_neg (show ¬ (false = true) by decide)] at H; exact H
            clear H
            have H := H1
            clear H1
            replace H := Option.bind_eq_some_iff.mp H
            obtain ⟨⟨t13056, t13059, t13062, t13065, t13066⟩, A1580, H⟩ := H
            try dsimp only at H
            have A158 := Aside0.mk A1580
            clear A1580
            replace H := Option.bind_eq_some_iff.mp H
            obtain ⟨⟨t13070, t13073, t13076, t13079, t13080⟩, A1590, H⟩ := H
            try dsimp only at H
            have A159 := Aside0.mk A1590
            clear A1590
            replace H := Option.bind_eq_some_iff.mp H
            obtain ⟨t13084, A1600, H⟩ := H
            try dsimp only at H
            have A160 := Aside0.mk A1600
            clear A1600
            by_cases c161 : t13084 = true
            · subst c161
              have H1 : ((customsref33_SameBytes.f t13062 t13076).bind fun t13085 => (if t13085 = true then (if (t13065 == t13079) = true then ((customsref33_SameRecords.f kj60 t13066 t13080).bind fun t13086 => (if t13086 = true then ((customslaw34_awake.f kj60).bind fun t13087 => (some t13087)) else (none))) else (none)) else (none))) = some r := by rw [if_pos rfl] at H; exact H
              clear H
              have H := H1
              clear H1
              replace H := Option.bind_eq_some_iff.mp H
              obtain ⟨t13085, A1620, H⟩ := H
              try dsimp only at H
              have A162 := Aside0.mk A1620
              clear A1620
              by_cases c163 : t13085 = true
              · subst c163
                have H1 : (if (t13065 == t13079) = true then ((customsref33_SameRecords.f kj60 t13066 t13080).bind fun t13086 => (if t13086 = true then ((customslaw34_awake.f kj60).bind fun t13087 => (some t13087)) else (none))) else (none)) = some r := by rw [if_pos rfl] at H; exact H
                clear H
                have H := H1
                clear H1
                replace H := if_some H; obtain ⟨c164, H⟩ := H
                have c164b0 : (t13065 == t13079) = true := c164
                (try (have c164b1 : decide (t13065 = t13079) = true := by simpa using c164))
                (try (have c164b2 : (t13065 == t13079) = true := by simpa using c164))
                clear c164
                replace H := Option.bind_eq_some_iff.mp H
                obtain ⟨t13086, A1650, H⟩ := H
                try dsimp only at H
                have A165 := Aside0.mk A1650
                clear A1650
                by_cases c166 : t13086 = true
                · subst c166
                  have H1 : ((customslaw34_awake.f kj60).bind fun t13087 => (some t13087)) = some r := by rw [if_pos rfl] at H; exact H
                  clear H
                  have H := H1
                  clear H1
                  replace H := Option.bind_eq_some_iff.mp H
                  obtain ⟨t13087, A1670, H⟩ := H
                  try dsimp only at H
                  have A167 := Aside0.mk A1670
                  clear A1670
                  obtain rfl := Option.some.inj H
                  have hcz168_0 : wc.cell? ⟨gb13006, 0, none⟩ = some (.slice Ao65 x13007000_6.length co65) := (blk_cell BK13006.out 0).trans rfl
                  have hcz168_1 : wc.cell? ⟨gb13006, 1, none⟩ = some (.slice Ao66 x13007001_6.length co66) := (blk_cell BK13006.out 1).trans rfl
                  have hfz168_0 := blk_frozen BK13006.out 0
                  have hfz168_1 := blk_frozen BK13006.out 1
                  go_wp2_with (first | ((with_reducible refine gate_callee (f := 61) rfl ?_); refine goesL_ (some 116) rfl rfl Try.func61 (by kernel_rfl) rfl #[.agg #[.slice Ao65 x13007000_6.length co65, .slice Ao66 x13007001_6.length co66]] rfl (by (try simp only [List.map_toArray, List.map_cons, List.map_nil]); first | done | rfl | (simp only [List.length_drop, List.length_take]; rfl)) ?_; (with_reducible refine (journal_Open.calls kj60 _ _ x13007000_6 _ _ x13007001_6 t13056 t13059 t13062 t13065 t13066 _ ?side1 ?side2 ?side3 ?side4 A158.out).mono ?_); (case side1 => exact Kd.C_ext (Kd.V_reads' HO_13007000.out).2.2); (case side2 => exact (Kd.V_reads' HO_13007000.out).2.1); (case side3 => exact Kd.C_ext (Kd.V_reads' HO_13007001.out).2.2); (case side4 => exact (Kd.V_reads' HO_13007001.out).2.1); rintro e w169 ⟨v13057, v13060, v13063, v13067, rfl, ho0, ho1, ho2, ho3, hb⟩; refine ⟨_, rfl, ?_⟩; have n0_ := Aside0.mk (Kd.V_mono (Kd.V_told (Kd.V_told (Kd.V_told (Kd.V_old (Kd.V_ext HO_13007000.out) hb) (Kd.R_base ho0)) (Kd.R_base ho1)) (Kd.N_base ho3)) (fun _ h_ => h_.1)); have n1_ := Aside0.mk (Kd.V_mono (Kd.V_told (Kd.V_told (Kd.V_told (Kd.V_old (Kd.V_ext HO_13007001.out) hb) (Kd.R_base ho0)) (Kd.R_base ho1)) (Kd.N_base ho3)) (fun _ h_ => h_.1)); have n2_ := Aside0.mk (Kd.R_lower (Kd.R_newM (M := fun k_ => (w.heap.size ≤ k_)) (Kd.R_mono (ok' := fun k_ => some k_ ≠ (v13060 : Value).ownBlock) ho0 (fun _ hk_ => hk_.2)) (below_size (below_extB HB.out)) (fun k_ h_ => h_)) (below_size (below_extB HB.out))); have n3_ := Aside0.mk (Kd.R_lower (Kd.R_newM (M := fun k_ => (w.heap.size ≤ k_)) (Kd.R_mono (ok' := fun k_ => some k_ ≠ (v13057 : Value).ownBlock) ho1 (fun _ hk_ => hk_.2)) (below_size (below_extB HB.out)) (fun k_ h_ => h_)) (below_size (below_extB HB.out))); have n4_ := Aside0.mk (Kd.V_lower (Kd.V_mono (ok' := fun k_ => ((P0_ k_ ∨ P2_0_ k_ ∨ P2_1_ k_ ∨ P3_1_ k_) ∨ w.heap.size ≤ k_) ∧ some k_ ≠ (v13057 : Value).ownBlock ∧ some k_ ≠ (v13060 : Value).ownBlock ∧ some k_ ≠ (v13067 : Value).ownBlock ∧ k_ ≠ gb13006) ho2 (fun k_ hk_ => ⟨(.inr (Nat.le_trans (below_size (below_extB HB.out)) hk_.1)), hk_.2.1, hk_.2.2.1, hk_.2.2.2, (Kd.freshB (blk_ext BK13006.out) k_ hk_.1)⟩)) (below_size (below_extB HB.out))); have n5_ := Aside0.mk (Kd.N_lower (Kd.N_mono (ok' := fun k_ => ((P0_ k_ ∨ P2_0_ k_ ∨ P2_1_ k_ ∨ P3_1_ k_) ∨ w.heap.size ≤ k_) ∧ some k_ ≠ (v13057 : Value).ownBlock ∧ some k_ ≠ (v13060 : Value).ownBlock ∧ k_ ≠ gb13006) ho3 (fun k_ hk_ => ⟨(.inr (Nat.le_trans (below_size (below_extB HB.out)) hk_.1)), hk_.2.1, hk_.2.2, (Kd.freshB (blk_ext BK13006.out) k_ hk_.1)⟩)) (below_size (below_extB HB.out))); have n6_ := Aside0.mk (blk_below (blk_ext BK13006.out) hb); have n7_ := Aside0.mk (below_step (below_extB HB.out) hb); clear HO_13007000; clear HO_13007001; clear BK13006; clear HB; have HO_13007000 := n0_; have HO_13007001 := n1_; have HO13058 := n2_; have HO13061 := n3_; have HO13064 := n4_; have HO13068 := n5_; have BK13006 := n6_; have HB := n7_; clear n0_ n1_ n2_ n3_ n4_ n5_ n6_ n7_; (try clear hb); (try clear hb2); (try clear hk); (try clear hi); (try clear ho0); (try clear ho1); (try clear ho2); (try clear ho3)) | ((with_reducible refine gate_dst (N := 22) rfl ?_); refine box_event ?hg (N := 22) ?hd (cs := #[.slice none 0 0, .slice none 0 0]) (t := 24) ?hr ?_; (case hd => rfl); (case hg => rfl); (case hr => first | (go_simp; done) | (go_simp; rfl)); intro gb13069 hg w170 hbox hb; have n0_ := Aside0.mk (Kd.V_below (Kd.V_elderB (Kd.V_ext HO_13007000.out) gb13069 (Nat.le_of_eq hg.symm)) hb); have n1_ := Aside0.mk (Kd.V_below (Kd.V_elderB (Kd.V_ext HO_13007001.out) gb13069 (Nat.le_of_eq hg.symm)) hb); have n2_ := Aside0.mk (Kd.R_below (Kd.R_ext HO13058.out) hb); have n3_ := Aside0.mk (Kd.R_below (Kd.R_ext HO13061.out) hb); have n4_ := Aside0.mk (Kd.V_below (Kd.V_elderB (Kd.V_ext HO13064.out) gb13069 (Nat.le_of_eq hg.symm)) hb); have n5_ := Aside0.mk (Kd.N_below (Kd.N_elderB (Kd.N_ext HO13068.out) gb13069 (Nat.le_of_eq hg.symm)) hb); have n6_ := Aside0.mk (blk_below (blk_ext BK13006.out) hb); have n7_ := Aside0.mk (below_step (below_extB HB.out) hb); have n8_ := Aside0.mk (hbox); have n9_ := Aside0.mk ((by rw [hg]; exact (below_size (below_extB HB.out)) : w.heap.size ≤ gb13069)); have n10_ := Aside0.mk ((by rw [hg]; exact (below_size (below_extB HB.out)) : w.heap.size ≤ gb13069)); have n11_ := Aside0.mk ((by rw [hg]; exact Nat.ne_of_lt (blk_lt (blk_ext BK13006.out)) : gb13006 ≠ gb13069)); have n12_ := Aside0.mk ((by rw [hg]; exact Nat.ne_of_gt (blk_lt (blk_ext BK13006.out)) : gb13069 ≠ gb13006)); clear HO_13007000; clear HO_13007001; clear HO13058; clear HO13061; clear HO13064; clear HO13068; clear BK13006; clear HB; have HO_13007000 := n0_; have HO_13007001 := n1_; have HO13058 := n2_; have HO13061 := n3_; have HO13064 := n4_; have HO13068 := n5_; have BK13006 := n6_; have HB := n7_; have BK13069 := n8_; have GW13069 := n9_; have GE13069 := n10_; have GI13069 := GE_.mk GE13069.out; have NB13006_13069 := n11_; have NB13069_13006 := n12_; clear n0_ n1_ n2_ n3_ n4_ n5_ n6_ n7_ n8_ n9_ n10_ n11_ n12_; clear hb hbox hg; obtain ⟨Ao171, co171, eo171⟩ := Kd.R_slice HO13058.out; subst eo171; have hnb172 := NB13069_13006.out; have hnc172 := NB13006_13069.out; have hcz173_0 : w170.cell? ⟨gb13069, 0, none⟩ = some (.slice none 0 0) := (blk_cell BK13069.out 0).trans rfl; have hcz173_1 : w170.cell? ⟨gb13069, 1, none⟩ = some (.slice none 0 0) := (blk_cell BK13069.out 1).trans rfl; have hfz173_0 := blk_frozen BK13069.out 0; have hfz173_1 := blk_frozen BK13069.out 1; obtain ⟨Ao174, co174, eo174⟩ := Kd.R_slice HO13061.out; subst eo174; have hcz175_0 : w170.cell? ⟨gb13006, 0, none⟩ = some (.slice Ao65 x13007000_6.length co65) := (blk_cell BK13006.out 0).trans rfl; have hcz175_1 : w170.cell? ⟨gb13006, 1, none⟩ = some (.slice Ao66 x13007001_6.length co66) := (blk_cell BK13006.out 1).trans rfl; have hfz175_0 := blk_frozen BK13006.out 0; have hfz175_1 := blk_frozen BK13006.out 1) | ((with_reducible refine gate_callee (f := 62) rfl ?_); refine goesL_ (some 123) rfl rfl Try.func62 (by kernel_rfl) rfl #[.agg #[.slice Ao65 x13007000_6.length co65, .slice Ao66 x13007001_6.length co66]] rfl (by (try simp only [List.map_toArray, List.map_cons, List.map_nil]); first | done | rfl | (simp only [List.length_drop, List.length_take]; rfl)) ?_; (with_reducible refine (customsref33_Open.calls kj60 _ _ x13007000_6 _ _ x13007001_6 t13070 t13073 t13076 t13079 t13080 _ ?side1 ?side2 ?side3 ?side4 A159.out).mono ?_); (case side1 => refine (Kd.V_reads' (e := 5) (base := w.heap.size) (ok := fun k_ => ((((((((P0_ k_ ∨ P2_0_ k_ ∨ P2_1_ k_ ∨ P3_1_ k_) ∨ w.heap.size ≤ k_)) ∧ k_ ≠ gb13006) ∧ some k_ ≠ (.slice Ao171 t13056.length co171 : Value).ownBlock) ∧ some k_ ≠ (.slice Ao174 t13059.length co174 : Value).ownBlock) ∧ some k_ ≠ (v13067 : Value).ownBlock) ∧ k_ ≠ gb13069)) (n := x13007000_6.length) (c := co65) ?_).2.2; exact (Kd.V_ext ((Kd.V_mono (Kd.V_far (p := ⟨gb13069, 1, none⟩) (Kd.V_far (p := ⟨gb13069, 0, none⟩) (Kd.V_mono HO_13007000.out (fun k_ hk => (⟨hk, hk.2⟩ : _ ∧ k_ ≠ gb13069))) (fun _ hk => hk.2) (.slice Ao171 t13056.length co171)) (fun _ hk => hk.2) (.slice Ao174 t13059.length co174)) (fun _ h_ => h_.1))))); (case side2 => exact (Kd.V_reads' HO_13007000.out).2.1); (case side3 => refine (Kd.V_reads' (e := 5) (base := w.heap.size) (ok := fun k_ => ((((((((P0_ k_ ∨ P2_0_ k_ ∨ P2_1_ k_ ∨ P3_1_ k_) ∨ w.heap.size ≤ k_)) ∧ k_ ≠ gb13006) ∧ some k_ ≠ (.slice Ao171 t13056.length co171 : Value).ownBlock) ∧ some k_ ≠ (.slice Ao174 t13059.length co174 : Value).ownBlock) ∧ some k_ ≠ (v13067 : Value).ownBlock) ∧ k_ ≠ gb13069)) (n := x13007001_6.length) (c := co66) ?_).2.2; exact (Kd.V_ext ((Kd.V_mono (Kd.V_far (p := ⟨gb13069, 1, none⟩) (Kd.V_far (p := ⟨gb13069, 0, none⟩) (Kd.V_mono HO_13007001.out (fun k_ hk => (⟨hk, hk.2⟩ : _ ∧ k_ ≠ gb13069))) (fun _ hk => hk.2) (.slice Ao171 t13056.length co171)) (fun _ hk => hk.2) (.slice Ao174 t13059.length co174)) (fun _ h_ => h_.1))))); (case side4 => exact (Kd.V_reads' HO_13007001.out).2.1); rintro e w176 ⟨v13071, v13074, v13077, v13081, rfl, ho0, ho1, ho2, ho3, hb⟩; refine ⟨_, rfl, ?_⟩; have n0_ := Aside0.mk (Kd.V_mono (Kd.V_told (Kd.V_told (Kd.V_told (Kd.V_old (Kd.V_ext ((Kd.V_mono (Kd.V_far (p := ⟨gb13069, 1, none⟩) (Kd.V_far (p := ⟨gb13069, 0, none⟩) (Kd.V_mono HO_13007000.out (fun k_ hk => (⟨hk, hk.2⟩ : _ ∧ k_ ≠ gb13069))) (fun _ hk => hk.2) (.slice Ao171 t13056.length co171)) (fun _ hk => hk.2) (.slice Ao174 t13059.length co174)) (fun _ h_ => h_.1)))) hb) (Kd.R_base ho0)) (Kd.R_base ho1)) (Kd.N_base ho3)) (fun _ h_ => h_.1)); have n1_ := Aside0.mk (Kd.V_mono (Kd.V_told (Kd.V_told (Kd.V_told (Kd.V_old (Kd.V_ext ((Kd.V_mono (Kd.V_far (p := ⟨gb13069, 1, none⟩) (Kd.V_far (p := ⟨gb13069, 0, none⟩) (Kd.V_mono HO_13007001.out (fun k_ hk => (⟨hk, hk.2⟩ : _ ∧ k_ ≠ gb13069))) (fun _ hk => hk.2) (.slice Ao171 t13056.length co171)) (fun _ hk => hk.2) (.slice Ao174 t13059.length co174)) (fun _ h_ => h_.1)))) hb) (Kd.R_base ho0)) (Kd.R_base ho1)) (Kd.N_base ho3)) (fun _ h_ => h_.1)); have n2_ := Aside0.mk (Kd.R_mono (Kd.R_told (Kd.R_told (Kd.R_old (Kd.R_ext ((Kd.R_mono (Kd.R_far (p := ⟨gb13069, 1, none⟩) (Kd.R_far (p := ⟨gb13069, 0, none⟩) (Kd.R_types HO13058.out BK13069.out (by decide)) (fun _ hk => hk.2) (.slice Ao171 t13056.length co171)) (fun _ hk => hk.2) (.slice Ao174 t13059.length co174)) (fun _ h_ => h_.1)))) hb) (Kd.R_base ho0)) (Kd.R_base ho1)) (fun _ h_ => h_.1)); have n3_ := Aside0.mk (Kd.R_mono (Kd.R_told (Kd.R_told (Kd.R_old (Kd.R_ext ((Kd.R_mono (Kd.R_far (p := ⟨gb13069, 1, none⟩) (Kd.R_far (p := ⟨gb13069, 0, none⟩) (Kd.R_types HO13061.out BK13069.out (by decide)) (fun _ hk => hk.2) (.slice Ao171 t13056.length co171)) (fun _ hk => hk.2) (.slice Ao174 t13059.length co174)) (fun _ h_ => h_.1)))) hb) (Kd.R_base ho0)) (Kd.R_base ho1)) (fun _ h_ => h_.1)); have n4_ := Aside0.mk (Kd.V_mono (Kd.V_told (Kd.V_told (Kd.V_told (Kd.V_old (Kd.V_ext ((Kd.V_mono (Kd.V_far (p := ⟨gb13069, 1, none⟩) (Kd.V_far (p := ⟨gb13069, 0, none⟩) (Kd.V_mono HO13064.out (fun k_ hk => (⟨hk, hk.2⟩ : _ ∧ k_ ≠ gb13069))) (fun _ hk => hk.2) (.slice Ao171 t13056.length co171)) (fun _ hk => hk.2) (.slice Ao174 t13059.length co174)) (fun _ h_ => h_.1)))) hb) (Kd.R_base ho0)) (Kd.R_base ho1)) (Kd.N_base ho3)) (fun _ h_ => h_.1)); have n5_ := Aside0.mk (Kd.N_mono (Kd.N_told (Kd.N_told (Kd.N_told (Kd.N_old (Kd.N_ext ((Kd.N_mono (Kd.N_far (p := ⟨gb13069, 1, none⟩) (Kd.N_far (p := ⟨gb13069, 0, none⟩) (Kd.N_mono HO13068.out (fun k_ hk => (⟨hk, hk.2⟩ : _ ∧ k_ ≠ gb13069))) (fun _ hk => hk.2) (.slice Ao171 t13056.length co171)) (fun _ hk => hk.2) (.slice Ao174 t13059.length co174)) (fun _ h_ => h_.1)))) hb) (Kd.R_base ho0)) (Kd.R_base ho1)) (Kd.N_base ho3)) (fun _ h_ => h_.1)); have n6_ := Aside0.mk (Kd.R_lower (Kd.R_new' (Kd.R_new' (Kd.R_newM (M := fun k_ => (w.heap.size ≤ k_)) (Kd.R_mono (ok' := fun k_ => some k_ ≠ (v13074 : Value).ownBlock) ho0 (fun _ hk_ => hk_.2)) (below_size (below_extB HB.out)) (fun k_ h_ => h_)) (Kd.R_lt (Kd.R_ext ((Kd.R_mono (Kd.R_far (p := ⟨gb13069, 1, none⟩) (Kd.R_far (p := ⟨gb13069, 0, none⟩) (Kd.R_types HO13058.out BK13069.out (by decide)) (fun _ hk => hk.2) (.slice Ao171 t13056.length co171)) (fun _ hk => hk.2) (.slice Ao174 t13059.length co174)) (fun _ h_ => h_.1)))))) (Kd.R_lt (Kd.R_ext ((Kd.R_mono (Kd.R_far (p := ⟨gb13069, 1, none⟩) (Kd.R_far (p := ⟨gb13069, 0, none⟩) (Kd.R_types HO13061.out BK13069.out (by decide)) (fun _ hk => hk.2) (.slice Ao171 t13056.length co171)) (fun _ hk => hk.2) (.slice Ao174 t13059.length co174)) (fun _ h_ => h_.1)))))) (below_size (below_extB HB.out))); have n7_ := Aside0.mk (Kd.R_lower (Kd.R_new' (Kd.R_new' (Kd.R_newM (M := fun k_ => (w.heap.size ≤ k_)) (Kd.R_mono (ok' := fun k_ => some k_ ≠ (v13071 : Value).ownBlock) ho1 (fun _ hk_ => hk_.2)) (below_size (below_extB HB.out)) (fun k_ h_ => h_)) (Kd.R_lt (Kd.R_ext ((Kd.R_mono (Kd.R_far (p := ⟨gb13069, 1, none⟩) (Kd.R_far (p := ⟨gb13069, 0, none⟩) (Kd.R_types HO13058.out BK13069.out (by decide)) (fun _ hk => hk.2) (.slice Ao171 t13056.length co171)) (fun _ hk => hk.2) (.slice Ao174 t13059.length co174)) (fun _ h_ => h_.1)))))) (Kd.R_lt (Kd.R_ext ((Kd.R_mono (Kd.R_far (p := ⟨gb13069, 1, none⟩) (Kd.R_far (p := ⟨gb13069, 0, none⟩) (Kd.R_types HO13061.out BK13069.out (by decide)) (fun _ hk => hk.2) (.slice Ao171 t13056.length co171)) (fun _ hk => hk.2) (.slice Ao174 t13059.length co174)) (fun _ h_ => h_.1)))))) (below_size (below_extB HB.out))); have n8_ := Aside0.mk (Kd.V_lower (Kd.V_mono (ok' := fun k_ => ((P0_ k_ ∨ P2_0_ k_ ∨ P2_1_ k_ ∨ P3_1_ k_) ∨ w.heap.size ≤ k_) ∧ some k_ ≠ (v13071 : Value).ownBlock ∧ some k_ ≠ (v13074 : Value).ownBlock ∧ some k_ ≠ (v13081 : Value).ownBlock ∧ some k_ ≠ (.slice Ao171 t13056.length co171 : Value).ownBlock ∧ some k_ ≠ (.slice Ao174 t13059.length co174 : Value).ownBlock ∧ some k_ ≠ (v13067 : Value).ownBlock ∧ k_ ≠ gb13006 ∧ k_ ≠ gb13069) ho2 (fun k_ hk_ => ⟨(.inr (Nat.le_trans (below_size (below_extB HB.out)) hk_.1)), hk_.2.1, hk_.2.2.1, hk_.2.2.2, (Kd.fresh' (Kd.R_lt (Kd.R_ext ((Kd.R_mono (Kd.R_far (p := ⟨gb13069, 1, none⟩) (Kd.R_far (p := ⟨gb13069, 0, none⟩) (Kd.R_types HO13058.out BK13069.out (by decide)) (fun _ hk => hk.2) (.slice Ao171 t13056.length co171)) (fun _ hk => hk.2) (.slice Ao174 t13059.length co174)) (fun _ h_ => h_.1))))) k_ hk_.1), (Kd.fresh' (Kd.R_lt (Kd.R_ext ((Kd.R_mono (Kd.R_far (p := ⟨gb13069, 1, none⟩) (Kd.R_far (p := ⟨gb13069, 0, none⟩) (Kd.R_types HO13061.out BK13069.out (by decide)) (fun _ hk => hk.2) (.slice Ao171 t13056.length co171)) (fun _ hk => hk.2) (.slice Ao174 t13059.length co174)) (fun _ h_ => h_.1))))) k_ hk_.1), (Kd.fresh' (Kd.N_lt (Kd.N_ext ((Kd.N_mono (Kd.N_far (p := ⟨gb13069, 1, none⟩) (Kd.N_far (p := ⟨gb13069, 0, none⟩) (Kd.N_mono HO13068.out (fun k_ hk => (⟨hk, hk.2⟩ : _ ∧ k_ ≠ gb13069))) (fun _ hk => hk.2) (.slice Ao171 t13056.length co171)) (fun _ hk => hk.2) (.slice Ao174 t13059.length co174)) (fun _ h_ => h_.1))))) k_ hk_.1), (Kd.freshB (g := gb13006) (o := .cells #[.slice Ao65 x13007000_6.length co65, .slice Ao66 x13007001_6.length co66] 24 (0, 0)) (by (with_reducible repeat (first | refine blk_drewN ?_ _ | refine blk_drew ?_ | refine blk_alloc ?_ _)); refine blk_far ?_ NB13006_13069.out _; (with_reducible repeat (first | refine blk_drewN ?_ _ | refine blk_drew ?_ | refine blk_alloc ?_ _)); refine blk_far ?_ NB13006_13069.out _; exact blk_ext BK13006.out) k_ hk_.1), (Kd.freshB (g := gb13069) (o := .cells #[.slice Ao171 t13056.length co171, .slice Ao174 t13059.length co174] 24 (0, 0)) (by (with_reducible repeat (first | refine blk_drewN ?_ _ | refine blk_drew ?_ | refine blk_alloc ?_ _)); refine blk_put (cs := #[.slice Ao171 t13056.length co171, .slice none 0 0]) ?_ 1 _ rfl; (with_reducible repeat (first | refine blk_drewN ?_ _ | refine blk_drew ?_ | refine blk_alloc ?_ _)); refine blk_put (cs := #[.slice none 0 0, .slice none 0 0]) ?_ 0 _ rfl; exact blk_ext BK13069.out) k_ hk_.1)⟩)) (below_size (below_extB HB.out))); have n9_ := Aside0.mk (Kd.N_lower (Kd.N_mono (ok' := fun k_ => ((P0_ k_ ∨ P2_0_ k_ ∨ P2_1_ k_ ∨ P3_1_ k_) ∨ w.heap.size ≤ k_) ∧ some k_ ≠ (v13071 : Value).ownBlock ∧ some k_ ≠ (v13074 : Value).ownBlock ∧ some k_ ≠ (.slice Ao171 t13056.length co171 : Value).ownBlock ∧ some k_ ≠ (.slice Ao174 t13059.length co174 : Value).ownBlock ∧ some k_ ≠ (v13067 : Value).ownBlock ∧ k_ ≠ gb13006 ∧ k_ ≠ gb13069) ho3 (fun k_ hk_ => ⟨(.inr (Nat.le_trans (below_size (below_extB HB.out)) hk_.1)), hk_.2.1, hk_.2.2, (Kd.fresh' (Kd.R_lt (Kd.R_ext ((Kd.R_mono (Kd.R_far (p := ⟨gb13069, 1, none⟩) (Kd.R_far (p := ⟨gb13069, 0, none⟩) (Kd.R_types HO13058.out BK13069.out (by decide)) (fun _ hk => hk.2) (.slice Ao171 t13056.length co171)) (fun _ hk => hk.2) (.slice Ao174 t13059.length co174)) (fun _ h_ => h_.1))))) k_ hk_.1), (Kd.fresh' (Kd.R_lt (Kd.R_ext ((Kd.R_mono (Kd.R_far (p := ⟨gb13069, 1, none⟩) (Kd.R_far (p := ⟨gb13069, 0, none⟩) (Kd.R_types HO13061.out BK13069.out (by decide)) (fun _ hk => hk.2) (.slice Ao171 t13056.length co171)) (fun _ hk => hk.2) (.slice Ao174 t13059.length co174)) (fun _ h_ => h_.1))))) k_ hk_.1), (Kd.fresh' (Kd.N_lt (Kd.N_ext ((Kd.N_mono (Kd.N_far (p := ⟨gb13069, 1, none⟩) (Kd.N_far (p := ⟨gb13069, 0, none⟩) (Kd.N_mono HO13068.out (fun k_ hk => (⟨hk, hk.2⟩ : _ ∧ k_ ≠ gb13069))) (fun _ hk => hk.2) (.slice Ao171 t13056.length co171)) (fun _ hk => hk.2) (.slice Ao174 t13059.length co174)) (fun _ h_ => h_.1))))) k_ hk_.1), (Kd.freshB (g := gb13006) (o := .cells #[.slice Ao65 x13007000_6.length co65, .slice Ao66 x13007001_6.length co66] 24 (0, 0)) (by (with_reducible repeat (first | refine blk_drewN ?_ _ | refine blk_drew ?_ | refine blk_alloc ?_ _)); refine blk_far ?_ NB13006_13069.out _; (with_reducible repeat (first | refine blk_drewN ?_ _ | refine blk_drew ?_ | refine blk_alloc ?_ _)); refine blk_far ?_ NB13006_13069.out _; exact blk_ext BK13006.out) k_ hk_.1), (Kd.freshB (g := gb13069) (o := .cells #[.slice Ao171 t13056.length co171, .slice Ao174 t13059.length co174] 24 (0, 0)) (by (with_reducible repeat (first | refine blk_drewN ?_ _ | refine blk_drew ?_ | refine blk_alloc ?_ _)); refine blk_put (cs := #[.slice Ao171 t13056.length co171, .slice none 0 0]) ?_ 1 _ rfl; (with_reducible repeat (first | refine blk_drewN ?_ _ | refine blk_drew ?_ | refine blk_alloc ?_ _)); refine blk_put (cs := #[.slice none 0 0, .slice none 0 0]) ?_ 0 _ rfl; exact blk_ext BK13069.out) k_ hk_.1)⟩)) (below_size (below_extB HB.out))); have n10_ := Aside0.mk (blk_below (g := gb13006) (o := .cells #[.slice Ao65 x13007000_6.length co65, .slice Ao66 x13007001_6.length co66] 24 (0, 0)) (by (with_reducible repeat (first | refine blk_drewN ?_ _ | refine blk_drew ?_ | refine blk_alloc ?_ _)); refine blk_far ?_ NB13006_13069.out _; (with_reducible repeat (first | refine blk_drewN ?_ _ | refine blk_drew ?_ | refine blk_alloc ?_ _)); refine blk_far ?_ NB13006_13069.out _; exact blk_ext BK13006.out) hb); have n11_ := Aside0.mk (blk_below (g := gb13069) (o := .cells #[.slice Ao171 t13056.length co171, .slice Ao174 t13059.length co174] 24 (0, 0)) (by (with_reducible repeat (first | refine blk_drewN ?_ _ | refine blk_drew ?_ | refine blk_alloc ?_ _)); refine blk_put (cs := #[.slice Ao171 t13056.length co171, .slice none 0 0]) ?_ 1 _ rfl; (with_reducible repeat (first | refine blk_drewN ?_ _ | refine blk_drew ?_ | refine blk_alloc ?_ _)); refine blk_put (cs := #[.slice none 0 0, .slice none 0 0]) ?_ 0 _ rfl; exact blk_ext BK13069.out) hb); have n12_ := Aside0.mk (below_step (below_extB HB.out) hb); clear HO_13007000; clear HO_13007001; clear HO13058; clear HO13061; clear HO13064; clear HO13068; clear BK13006; clear BK13069; clear HB; have HO_13007000 := n0_; have HO_13007001 := n1_; have HO13058 := n2_; have HO13061 := n3_; have HO13064 := n4_; have HO13068 := n5_; have HO13072 := n6_; have HO13075 := n7_; have HO13078 := n8_; have HO13082 := n9_; have BK13006 := n10_; have BK13069 := n11_; have HB := n12_; clear n0_ n1_ n2_ n3_ n4_ n5_ n6_ n7_ n8_ n9_ n10_ n11_ n12_; (try clear hb); (try clear hb2); (try clear hk); (try clear hi); (try clear ho0); (try clear ho1); (try clear ho2); (try clear ho3)) | ((with_reducible refine gate_dst (N := 26) rfl ?_); refine box_event ?hg (N := 26) ?hd (cs := #[.slice none 0 0, .slice none 0 0]) (t := 24) ?hr ?_; (case hd => rfl); (case hg => rfl); (case hr => first | (go_simp; done) | (go_simp; rfl)); intro gb13083 hg w177 hbox hb; have n0_ := Aside0.mk (Kd.V_below (Kd.V_elderB (Kd.V_ext HO_13007000.out) gb13083 (Nat.le_of_eq hg.symm)) hb); have n1_ := Aside0.mk (Kd.V_below (Kd.V_elderB (Kd.V_ext HO_13007001.out) gb13083 (Nat.le_of_eq hg.symm)) hb); have n2_ := Aside0.mk (Kd.R_below (Kd.R_ext HO13058.out) hb); have n3_ := Aside0.mk (Kd.R_below (Kd.R_ext HO13061.out) hb); have n4_ := Aside0.mk (Kd.V_below (Kd.V_elderB (Kd.V_ext HO13064.out) gb13083 (Nat.le_of_eq hg.symm)) hb); have n5_ := Aside0.mk (Kd.N_below (Kd.N_elderB (Kd.N_ext HO13068.out) gb13083 (Nat.le_of_eq hg.symm)) hb); have n6_ := Aside0.mk (Kd.R_below (Kd.R_ext HO13072.out) hb); have n7_ := Aside0.mk (Kd.R_below (Kd.R_ext HO13075.out) hb); have n8_ := Aside0.mk (Kd.V_below (Kd.V_elderB (Kd.V_ext HO13078.out) gb13083 (Nat.le_of_eq hg.symm)) hb); have n9_ := Aside0.mk (Kd.N_below (Kd.N_elderB (Kd.N_ext HO13082.out) gb13083 (Nat.le_of_eq hg.symm)) hb); have n10_ := Aside0.mk (blk_below (blk_ext BK13006.out) hb); have n11_ := Aside0.mk (blk_below (blk_ext BK13069.out) hb); have n12_ := Aside0.mk (below_step (below_extB HB.out) hb); have n13_ := Aside0.mk (hbox); have n14_ := Aside0.mk ((by rw [hg]; exact (below_size (below_extB HB.out)) : w.heap.size ≤ gb13083)); have n15_ := Aside0.mk ((by rw [hg]; exact (below_size (below_extB HB.out)) : w.heap.size ≤ gb13083)); have n16_ := Aside0.mk ((by rw [hg]; exact Nat.ne_of_lt (blk_lt (blk_ext BK13006.out)) : gb13006 ≠ gb13083)); have n17_ := Aside0.mk ((by rw [hg]; exact Nat.ne_of_gt (blk_lt (blk_ext BK13006.out)) : gb13083 ≠ gb13006)); have n18_ := Aside0.mk ((by rw [hg]; exact Nat.ne_of_lt (blk_lt (blk_ext BK13069.out)) : gb13069 ≠ gb13083)); have n19_ := Aside0.mk ((by rw [hg]; exact Nat.ne_of_gt (blk_lt (blk_ext BK13069.out)) : gb13083 ≠ gb13069)); clear HO_13007000; clear HO_13007001; clear HO13058; clear HO13061; clear HO13064; clear HO13068; clear HO13072; clear HO13075; clear HO13078; clear HO13082; clear BK13006; clear BK13069; clear HB; have HO_13007000 := n0_; have HO_13007001 := n1_; have HO13058 := n2_; have HO13061 := n3_; have HO13064 := n4_; have HO13068 := n5_; have HO13072 := n6_; have HO13075 := n7_; have HO13078 := n8_; have HO13082 := n9_; have BK13006 := n10_; have BK13069 := n11_; have HB := n12_; have BK13083 := n13_; have GW13083 := n14_; have GE13083 := n15_; have GI13083 := GE_.mk GE13083.out; have NB13006_13083 := n16_; have NB13083_13006 := n17_; have NB13069_13083 := n18_; have NB13083_13069 := n19_; clear n0_ n1_ n2_ n3_ n4_ n5_ n6_ n7_ n8_ n9_ n10_ n11_ n12_ n13_ n14_ n15_ n16_ n17_ n18_ n19_; clear hb hbox hg; obtain ⟨Ao178, co178, eo178⟩ := Kd.R_slice HO13072.out; subst eo178; have hnb179 := NB13083_13006.out; have hnc179 := NB13006_13083.out; have hnb180 := NB13083_13069.out; have hnc180 := NB13069_13083.out; have hcz181_0 : w177.cell? ⟨gb13083, 0, none⟩ = some (.slice none 0 0) := (blk_cell BK13083.out 0).trans rfl; have hcz181_1 : w177.cell? ⟨gb13083, 1, none⟩ = some (.slice none 0 0) := (blk_cell BK13083.out 1).trans rfl; have hfz181_0 := blk_frozen BK13083.out 0; have hfz181_1 := blk_frozen BK13083.out 1; obtain ⟨Ao182, co182, eo182⟩ := Kd.R_slice HO13075.out; subst eo182; have hcz183_0 : w177.cell? ⟨gb13069, 0, none⟩ = some (.slice Ao171 t13056.length co171) := (blk_cell BK13069.out 0).trans rfl; have hcz183_1 : w177.cell? ⟨gb13069, 1, none⟩ = some (.slice Ao174 t13059.length co174) := (blk_cell BK13069.out 1).trans rfl; have hfz183_0 := blk_frozen BK13069.out 0; have hfz183_1 := blk_frozen BK13069.out 1) | ((with_reducible refine gate_callee (f := 18) rfl ?_); refine goesL_ (some 130) rfl rfl Try.func18 (by kernel_rfl) rfl #[.agg #[.slice Ao171 t13056.length co171, .slice Ao174 t13059.length co174], .agg #[.slice Ao178 t13070.length co178, .slice Ao182 t13073.length co182]] rfl (by (try simp only [List.map_toArray, List.map_cons, List.map_nil]); first | done | rfl | (simp only [List.length_drop, List.length_take]; rfl)) ?_; (with_reducible refine (customsref33_SameDisk.calls _ _ t13056 _ _ t13059 _ _ t13070 _ _ t13073 true _ ?side1 ?side2 ?side3 ?side4 ?side5 ?side6 ?side7 ?side8 A160.out).mono ?_); (case side1 => refine (Kd.R_reads' (e := 5) (base := w.heap.size) (ok := fun k_ => ((((w.heap.size ≤ k_) ∧ some k_ ≠ (.slice Ao174 t13059.length co174 : Value).ownBlock) ∧ some k_ ≠ (.slice Ao178 t13070.length co178 : Value).ownBlock) ∧ some k_ ≠ (.slice Ao182 t13073.length co182 : Value).ownBlock)) (n := t13056.length) (c := co171) ?_).2.2; exact (Kd.R_ext ((Kd.R_mono (Kd.R_far (p := ⟨gb13083, 1, none⟩) (Kd.R_far (p := ⟨gb13083, 0, none⟩) (Kd.R_types HO13058.out BK13083.out (by decide)) (fun _ hk => hk.2) (.slice Ao178 t13070.length co178)) (fun _ hk => hk.2) (.slice Ao182 t13073.length co182)) (fun _ h_ => h_.1))))); (case side2 => exact (Kd.R_reads' HO13058.out).2.1); (case side3 => refine (Kd.R_reads' (e := 5) (base := w.heap.size) (ok := fun k_ => ((((w.heap.size ≤ k_) ∧ some k_ ≠ (.slice Ao171 t13056.length co171 : Value).ownBlock) ∧ some k_ ≠ (.slice Ao178 t13070.length co178 : Value).ownBlock) ∧ some k_ ≠ (.slice Ao182 t13073.length co182 : Value).ownBlock)) (n := t13059.length) (c := co174) ?_).2.2; exact (Kd.R_ext ((Kd.R_mono (Kd.R_far (p := ⟨gb13083, 1, none⟩) (Kd.R_far (p := ⟨gb13083, 0, none⟩) (Kd.R_types HO13061.out BK13083.out (by decide)) (fun _ hk => hk.2) (.slice Ao178 t13070.length co178)) (fun _ hk => hk.2) (.slice Ao182 t13073.length co182)) (fun _ h_ => h_.1))))); (case side4 => exact (Kd.R_reads' HO13061.out).2.1); (case side5 => refine (Kd.R_reads' (e := 5) (base := w.heap.size) (ok := fun k_ => ((((w.heap.size ≤ k_) ∧ some k_ ≠ (.slice Ao182 t13073.length co182 : Value).ownBlock) ∧ some k_ ≠ (.slice Ao171 t13056.length co171 : Value).ownBlock) ∧ some k_ ≠ (.slice Ao174 t13059.length co174 : Value).ownBlock)) (n := t13070.length) (c := co178) ?_).2.2; exact (Kd.R_ext ((Kd.R_mono (Kd.R_far (p := ⟨gb13083, 1, none⟩) (Kd.R_far (p := ⟨gb13083, 0, none⟩) (Kd.R_types HO13072.out BK13083.out (by decide)) (fun _ hk => hk.2) (.slice Ao178 t13070.length co178)) (fun _ hk => hk.2) (.slice Ao182 t13073.length co182)) (fun _ h_ => h_.1))))); (case side6 => exact (Kd.R_reads' HO13072.out).2.1); (case side7 => refine (Kd.R_reads' (e := 5) (base := w.heap.size) (ok := fun k_ => ((((w.heap.size ≤ k_) ∧ some k_ ≠ (.slice Ao178 t13070.length co178 : Value).ownBlock) ∧ some k_ ≠ (.slice Ao171 t13056.length co171 : Value).ownBlock) ∧ some k_ ≠ (.slice Ao174 t13059.length co174 : Value).ownBlock)) (n := t13073.length) (c := co182) ?_).2.2; exact (Kd.R_ext ((Kd.R_mono (Kd.R_far (p := ⟨gb13083, 1, none⟩) (Kd.R_far (p := ⟨gb13083, 0, none⟩) (Kd.R_types HO13075.out BK13083.out (by decide)) (fun _ hk => hk.2) (.slice Ao178 t13070.length co178)) (fun _ hk => hk.2) (.slice Ao182 t13073.length co182)) (fun _ h_ => h_.1))))); (case side8 => exact (Kd.R_reads' HO13075.out).2.1); rintro e w184 ⟨rfl, hb⟩; refine ⟨_, rfl, ?_⟩; have n0_ := Aside0.mk (Kd.V_below (Kd.V_ext ((Kd.V_mono (Kd.V_far (p := ⟨gb13083, 1, none⟩) (Kd.V_far (p := ⟨gb13083, 0, none⟩) (Kd.V_mono HO_13007000.out (fun k_ hk => (⟨hk, hk.2⟩ : _ ∧ k_ ≠ gb13083))) (fun _ hk => hk.2) (.slice Ao178 t13070.length co178)) (fun _ hk => hk.2) (.slice Ao182 t13073.length co182)) (fun _ h_ => h_.1)))) hb); have n1_ := Aside0.mk (Kd.V_below (Kd.V_ext ((Kd.V_mono (Kd.V_far (p := ⟨gb13083, 1, none⟩) (Kd.V_far (p := ⟨gb13083, 0, none⟩) (Kd.V_mono HO_13007001.out (fun k_ hk => (⟨hk, hk.2⟩ : _ ∧ k_ ≠ gb13083))) (fun _ hk => hk.2) (.slice Ao178 t13070.length co178)) (fun _ hk => hk.2) (.slice Ao182 t13073.length co182)) (fun _ h_ => h_.1)))) hb); have n2_ := Aside0.mk (Kd.R_below (Kd.R_ext ((Kd.R_mono (Kd.R_far (p := ⟨gb13083, 1, none⟩) (Kd.R_far (p := ⟨gb13083, 0, none⟩) (Kd.R_types HO13058.out BK13083.out (by decide)) (fun _ hk => hk.2) (.slice Ao178 t13070.length co178)) (fun _ hk => hk.2) (.slice Ao182 t13073.length co182)) (fun _ h_ => h_.1)))) hb); have n3_ := Aside0.mk (Kd.R_below (Kd.R_ext ((Kd.R_mono (Kd.R_far (p := ⟨gb13083, 1, none⟩) (Kd.R_far (p := ⟨gb13083, 0, none⟩) (Kd.R_types HO13061.out BK13083.out (by decide)) (fun _ hk => hk.2) (.slice Ao178 t13070.length co178)) (fun _ hk => hk.2) (.slice Ao182 t13073.length co182)) (fun _ h_ => h_.1)))) hb); have n4_ := Aside0.mk (Kd.V_below (Kd.V_ext ((Kd.V_mono (Kd.V_far (p := ⟨gb13083, 1, none⟩) (Kd.V_far (p := ⟨gb13083, 0, none⟩) (Kd.V_mono HO13064.out (fun k_ hk => (⟨hk, hk.2⟩ : _ ∧ k_ ≠ gb13083))) (fun _ hk => hk.2) (.slice Ao178 t13070.length co178)) (fun _ hk => hk.2) (.slice Ao182 t13073.length co182)) (fun _ h_ => h_.1)))) hb); have n5_ := Aside0.mk (Kd.N_below (Kd.N_ext ((Kd.N_mono (Kd.N_far (p := ⟨gb13083, 1, none⟩) (Kd.N_far (p := ⟨gb13083, 0, none⟩) (Kd.N_mono HO13068.out (fun k_ hk => (⟨hk, hk.2⟩ : _ ∧ k_ ≠ gb13083))) (fun _ hk => hk.2) (.slice Ao178 t13070.length co178)) (fun _ hk => hk.2) (.slice Ao182 t13073.length co182)) (fun _ h_ => h_.1)))) hb); have n6_ := Aside0.mk (Kd.R_below (Kd.R_ext ((Kd.R_mono (Kd.R_far (p := ⟨gb13083, 1, none⟩) (Kd.R_far (p := ⟨gb13083, 0, none⟩) (Kd.R_types HO13072.out BK13083.out (by decide)) (fun _ hk => hk.2) (.slice Ao178 t13070.length co178)) (fun _ hk => hk.2) (.slice Ao182 t13073.length co182)) (fun _ h_ => h_.1)))) hb); have n7_ := Aside0.mk (Kd.R_below (Kd.R_ext ((Kd.R_mono (Kd.R_far (p := ⟨gb13083, 1, none⟩) (Kd.R_far (p := ⟨gb13083, 0, none⟩) (Kd.R_types HO13075.out BK13083.out (by decide)) (fun _ hk => hk.2) (.slice Ao178 t13070.length co178)) (fun _ hk => hk.2) (.slice Ao182 t13073.length co182)) (fun _ h_ => h_.1)))) hb); have n8_ := Aside0.mk (Kd.V_below (Kd.V_ext ((Kd.V_mono (Kd.V_far (p := ⟨gb13083, 1, none⟩) (Kd.V_far (p := ⟨gb13083, 0, none⟩) (Kd.V_mono HO13078.out (fun k_ hk => (⟨hk, hk.2⟩ : _ ∧ k_ ≠ gb13083))) (fun _ hk => hk.2) (.slice Ao178 t13070.length co178)) (fun _ hk => hk.2) (.slice Ao182 t13073.length co182)) (fun _ h_ => h_.1)))) hb); have n9_ := Aside0.mk (Kd.N_below (Kd.N_ext ((Kd.N_mono (Kd.N_far (p := ⟨gb13083, 1, none⟩) (Kd.N_far (p := ⟨gb13083, 0, none⟩) (Kd.N_mono HO13082.out (fun k_ hk => (⟨hk, hk.2⟩ : _ ∧ k_ ≠ gb13083))) (fun _ hk => hk.2) (.slice Ao178 t13070.length co178)) (fun _ hk => hk.2) (.slice Ao182 t13073.length co182)) (fun _ h_ => h_.1)))) hb); have n10_ := Aside0.mk (blk_below (g := gb13006) (o := .cells #[.slice Ao65 x13007000_6.length co65, .slice Ao66 x13007001_6.length co66] 24 (0, 0)) (by (with_reducible repeat (first | refine blk_drewN ?_ _ | refine blk_drew ?_ | refine blk_alloc ?_ _)); refine blk_far ?_ NB13006_13083.out _; (with_reducible repeat (first | refine blk_drewN ?_ _ | refine blk_drew ?_ | refine blk_alloc ?_ _)); refine blk_far ?_ NB13006_13083.out _; exact blk_ext BK13006.out) hb); have n11_ := Aside0.mk (blk_below (g := gb13069) (o := .cells #[.slice Ao171 t13056.length co171, .slice Ao174 t13059.length co174] 24 (0, 0)) (by (with_reducible repeat (first | refine blk_drewN ?_ _ | refine blk_drew ?_ | refine blk_alloc ?_ _)); refine blk_far ?_ NB13069_13083.out _; (with_reducible repeat (first | refine blk_drewN ?_ _ | refine blk_drew ?_ | refine blk_alloc ?_ _)); refine blk_far ?_ NB13069_13083.out _; exact blk_ext BK13069.out) hb); have n12_ := Aside0.mk (blk_below (g := gb13083) (o := .cells #[.slice Ao178 t13070.length co178, .slice Ao182 t13073.length co182] 24 (0, 0)) (by (with_reducible repeat (first | refine blk_drewN ?_ _ | refine blk_drew ?_ | refine blk_alloc ?_ _)); refine blk_put (cs := #[.slice Ao178 t13070.length co178, .slice none 0 0]) ?_ 1 _ rfl; (with_reducible repeat (first | refine blk_drewN ?_ _ | refine blk_drew ?_ | refine blk_alloc ?_ _)); refine blk_put (cs := #[.slice none 0 0, .slice none 0 0]) ?_ 0 _ rfl; exact blk_ext BK13083.out) hb); have n13_ := Aside0.mk (below_step (below_extB HB.out) hb); clear HO_13007000; clear HO_13007001; clear HO13058; clear HO13061; clear HO13064; clear HO13068; clear HO13072; clear HO13075; clear HO13078; clear HO13082; clear BK13006; clear BK13069; clear BK13083; clear HB; have HO_13007000 := n0_; have HO_13007001 := n1_; have HO13058 := n2_; have HO13061 := n3_; have HO13064 := n4_; have HO13068 := n5_; have HO13072 := n6_; have HO13075 := n7_; have HO13078 := n8_; have HO13082 := n9_; have BK13006 := n10_; have BK13069 := n11_; have BK13083 := n12_; have HB := n13_; clear n0_ n1_ n2_ n3_ n4_ n5_ n6_ n7_ n8_ n9_ n10_ n11_ n12_ n13_; (try clear hb); (try clear hb2); (try clear hk); (try clear hi); obtain ⟨Ao185, co185, eo185⟩ := Kd.V_slice HO13064.out; subst eo185; obtain ⟨Ao186, co186, eo186⟩ := Kd.V_slice HO13078.out; subst eo186) | (go_at_call 21; (with_reducible refine (customsref33_SameBytes.calls _ _ t13062 _ _ t13076 true _ ?side1 ?side2 ?side3 ?side4 A162.out).mono ?_); (case side1 => exact Kd.C_ext (Kd.V_reads' HO13064.out).2.2); (case side2 => exact (Kd.V_reads' HO13064.out).2.1); (case side3 => exact Kd.C_ext (Kd.V_reads' HO13078.out).2.2); (case side4 => exact (Kd.V_reads' HO13078.out).2.1); rintro e w' ⟨rfl, ⟨nd, rfl⟩⟩; obtain ⟨Ao187, co187, eo187⟩ := Kd.N_slice HO13068.out; subst eo187; obtain ⟨Ao188, co188, eo188⟩ := Kd.N_slice HO13082.out; subst eo188) | (go_at_call 63; (with_reducible refine (customsref33_SameRecords.calls kj60 _ _ t13066 _ _ t13080 true _ ?side1 ?side2 ?side3 ?side4 A165.out).mono ?_); (case side1 => exact Kd.C_ext (Kd.N_reads' HO13068.out).2.2); (case side2 => exact (Kd.N_reads' HO13068.out).2.1); (case side3 => exact Kd.C_ext (Kd.N_reads' HO13082.out).2.2); (case side4 => exact (Kd.N_reads' HO13082.out).2.1); rintro e w' ⟨rfl, ⟨nd, rfl⟩⟩) | (go_at_call 55; (with_reducible refine (customslaw34_awake.calls kj60  t13087 _ A167.out).mono ?_); rintro e w189 ⟨rfl, hb⟩; have n0_ := Aside0.mk (Kd.V_below (Kd.V_ext HO_13007000.out) hb); have n1_ := Aside0.mk (Kd.V_below (Kd.V_ext HO_13007001.out) hb); have n2_ := Aside0.mk (Kd.R_below (Kd.R_ext HO13058.out) hb); have n3_ := Aside0.mk (Kd.R_below (Kd.R_ext HO13061.out) hb); have n4_ := Aside0.mk (Kd.V_below (Kd.V_ext HO13064.out) hb); have n5_ := Aside0.mk (Kd.N_below (Kd.N_ext HO13068.out) hb); have n6_ := Aside0.mk (Kd.R_below (Kd.R_ext HO13072.out) hb); have n7_ := Aside0.mk (Kd.R_below (Kd.R_ext HO13075.out) hb); have n8_ := Aside0.mk (Kd.V_below (Kd.V_ext HO13078.out) hb); have n9_ := Aside0.mk (Kd.N_below (Kd.N_ext HO13082.out) hb); have n10_ := Aside0.mk (blk_below (blk_ext BK13006.out) hb); have n11_ := Aside0.mk (blk_below (blk_ext BK13069.out) hb); have n12_ := Aside0.mk (blk_below (blk_ext BK13083.out) hb); have n13_ := Aside0.mk (below_step (below_extB HB.out) hb); clear HO_13007000; clear HO_13007001; clear HO13058; clear HO13061; clear HO13064; clear HO13068; clear HO13072; clear HO13075; clear HO13078; clear HO13082; clear BK13006; clear BK13069; clear BK13083; clear HB; have HO_13007000 := n0_; have HO_13007001 := n1_; have HO13058 := n2_; have HO13061 := n3_; have HO13064 := n4_; have HO13068 := n5_; have HO13072 := n6_; have HO13075 := n7_; have HO13078 := n8_; have HO13082 := n9_; have BK13006 := n10_; have BK13069 := n11_; have BK13083 := n12_; have HB := n13_; clear n0_ n1_ n2_ n3_ n4_ n5_ n6_ n7_ n8_ n9_ n10_ n11_ n12_ n13_; (try clear hb); (try clear hb2); (try clear hk); (try clear hi)))
                  go_ret
                  exact ⟨by first | rfl | (simp [errW_none, errW_some] <;> rfl) | (simp [*, errW_none, errW_some] <;> rfl), below_extB HB.out⟩
                · replace c166 := Bool.eq_false_iff.mpr c166
                  subst c166
                  have H1 : (none) = some r := by rw [if_neg (show ¬ (false = true) by decide)] at H; exact H
                  clear H
                  have H := H1
                  clear H1
                  exact absurd H (by simp)
              · replace c163 := Bool.eq_false_iff.mpr c163
                subst c163
                have H1 : (none) = some r := by rw [if_neg (show ¬ (false = true) by decide)] at H; exact H
                clear H
                have H := H1
                clear H1
                exact absurd H (by simp)
            · replace c161 := Bool.eq_false_iff.mpr c161
              subst c161
              have H1 : (none) = some r := by rw [if_neg (show ¬ (false = true) by decide)] at H; exact H
              clear H
              have H := H1
              clear H1
              exact absurd H (by simp)

end Go.Proofs.Ytfljnggpnndmkaa.Z
