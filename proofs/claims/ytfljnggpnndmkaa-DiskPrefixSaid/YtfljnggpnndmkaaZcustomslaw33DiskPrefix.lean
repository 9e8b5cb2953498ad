/- Written by a program of this session: each Go function as a plain Lean function, and that the machine's call does what it says. Conditions: none but those each theorem states. -/
import Derived.Test.YtfljnggpnndmkaaZ0
import Derived.Test.YtfljnggpnndmkaaZdiskWrite
import Derived.Test.YtfljnggpnndmkaaZdiskRead
import Derived.Test.YtfljnggpnndmkaaZdiskSync
import Derived.Test.YtfljnggpnndmkaaZdiskCrash
import Derived.Test.YtfljnggpnndmkaaZcustomslaw33awake
namespace Go.Proofs.Ytfljnggpnndmkaa.Z
open Go.RowKit Go.Proofs.YtfljnggpnndmkaaW.PrintWords Go.Proofs.YtfljnggpnndmkaaW.PrintLast Go.Proofs.YtfljnggpnndmkaaW.PrintMore
attribute [local go_sem] max2_int min2_int max_two min_two max_three min_three max_four min_four   -- for this text's walks alone
set_option linter.unusedVariables false
set_option linter.unusedSimpArgs false

/-! ### customslaw33_DiskPrefix: function 4 -/
mutual
def customslaw33_DiskPrefix.l0 : Nat → List (List Int) → List Bool → Int → List Int → Int → Int → List Int → List Int → Option (Bool)
  | 0, _, _, _, _, _, _, _, _ => none
  | k + 1, x0, x1, x2, x8, x9, x10, x4002000, x4002001 => if x10 < (x0.length : Int) then (customslaw33_DiskPrefix.j1 k x0 x1 x2 x8 x9 x10 (decide (x10 < 30)) x4002000 x4002001) else (customslaw33_DiskPrefix.j1 k x0 x1 x2 x8 x9 x10 false x4002000 x4002001)
def customslaw33_DiskPrefix.j1 : Nat → List (List Int) → List Bool → Int → List Int → Int → Int → Bool → List Int → List Int → Option (Bool)
  | 0, _, _, _, _, _, _, _, _, _ => none
  | k + 1, x0, x1, x2, x8, x9, x10, x22, x4002000, x4002001 => if x22 = true then (if 0 ≤ x10 then (if x10 < (x0.length : Int) then (if ((rd_L1 x0 x10).length : Int) > 1000 then (if 1000 ≤ ((rd_L1 x0 x10).length : Int) then (customslaw33_DiskPrefix.j2 k x0 x1 x2 x8 x9 x10 ((rd_L1 x0 x10).take 1000) x4002000 x4002001) else (none)) else (customslaw33_DiskPrefix.j2 k x0 x1 x2 x8 x9 x10 (rd_L1 x0 x10) x4002000 x4002001)) else (none)) else (none)) else ((disk_Crash.f x4002000 x4002001 x2).bind fun bt4026 => ((disk_Read.f bt4026.1 bt4026.2).bind fun t4032 => (if (t4032.length : Int) ≥ x9 then (if (t4032.length : Int) ≤ (x8.length : Int) then (if 0 ≤ (t4032.length : Int) then (if (strOfNums t4032).toList = (strOfNums (x8.take ((t4032.length : Int) : Int).toNat)).toList then ((disk_Read.f x4002000 x4002001).bind fun t4039 => (if (strOfNums t4039).toList = (strOfNums x8).toList then ((customslaw33_awake.f).bind fun t4042 => (some t4042)) else (none))) else (none)) else (none)) else (none)) else (none))))
def customslaw33_DiskPrefix.j2 : Nat → List (List Int) → List Bool → Int → List Int → Int → Int → List Int → List Int → List Int → Option (Bool)
  | 0, _, _, _, _, _, _, _, _, _ => none
  | k + 1, x0, x1, x2, x8, x9, x10, x11, x4002000, x4002001 => (disk_Write.f x4002000 x4002001 x11).bind fun bt4008 => (if bt4008.2.2 = 0 then (if x8.length + x11.length < 140737488355328 then ((some (x8 ++ x11 : List Int)).bind fun y4016 => (if x10 < (x1.length : Int) then (if 0 ≤ x10 then (if rdOf false x1 x10 = true then ((disk_Sync.f bt4008.1 bt4008.2.1).bind fun bt4020 => (customslaw33_DiskPrefix.l0 k x0 x1 x2 y4016 (y4016.length : Int) (wrap64 (x10 + 1)) bt4020.1 bt4020.2)) else (customslaw33_DiskPrefix.l0 k x0 x1 x2 y4016 x9 (wrap64 (x10 + 1)) bt4008.1 bt4008.2.1)) else (none)) else (customslaw33_DiskPrefix.l0 k x0 x1 x2 y4016 x9 (wrap64 (x10 + 1)) bt4008.1 bt4008.2.1))) else (none)) else (none))
end
def customslaw33_DiskPrefix.f (k : Nat) (l0 : List (List Int)) (l1 : List Bool) (a2 : Int) : Option (Bool) := customslaw33_DiskPrefix.l0 k l0 l1 a2 ([] : List Int) 0 0 ([] : List Int) ([] : List Int)
theorem customslaw33_DiskPrefix.mono_l : ∀ k, (∀ y0 y1 y2 y3 y4 y5 y6 y7, LeO (customslaw33_DiskPrefix.l0 k y0 y1 y2 y3 y4 y5 y6 y7) (customslaw33_DiskPrefix.l0 (k + 1) y0 y1 y2 y3 y4 y5 y6 y7)) ∧ (∀ y0 y1 y2 y3 y4 y5 y6 y7 y8, LeO (customslaw33_DiskPrefix.j1 k y0 y1 y2 y3 y4 y5 y6 y7 y8) (customslaw33_DiskPrefix.j1 (k + 1) y0 y1 y2 y3 y4 y5 y6 y7 y8)) ∧ (∀ y0 y1 y2 y3 y4 y5 y6 y7 y8, LeO (customslaw33_DiskPrefix.j2 k y0 y1 y2 y3 y4 y5 y6 y7 y8) (customslaw33_DiskPrefix.j2 (k + 1) y0 y1 y2 y3 y4 y5 y6 y7 y8))
  | 0 => ⟨fun _ _ _ _ _ _ _ _ r h => by simp [customslaw33_DiskPrefix.l0] at h, fun _ _ _ _ _ _ _ _ _ r h => by simp [customslaw33_DiskPrefix.j1] at h, fun _ _ _ _ _ _ _ _ _ r h => by simp [customslaw33_DiskPrefix.j2] at h⟩
  | k + 1 => by
    obtain ⟨ih0, ih1, ih2⟩ := customslaw33_DiskPrefix.mono_l k
    refine ⟨?_, ?_, ?_⟩
    · intro y0 y1 y2 y3 y4 y5 y6 y7
      unfold customslaw33_DiskPrefix.l0
      repeat' first
      | (with_reducible exact ih0 _ _ _ _ _ _ _ _)
      | (with_reducible exact ih1 _ _ _ _ _ _ _ _ _)
      | (with_reducible exact ih2 _ _ _ _ _ _ _ _ _)
      | (with_reducible exact LeO.refl _)
      | (with_reducible exact LeO.none _)
      | (with_reducible refine LeO.ite ?_ ?_)
      | (with_reducible refine LeO.bind ?_ (fun _ => ?_))
      | exact ih0 _ _ _ _ _ _ _ _
      | exact ih1 _ _ _ _ _ _ _ _ _
      | exact ih2 _ _ _ _ _ _ _ _ _
      | exact LeO.none _
      | refine LeO.ite ?_ ?_
      | refine LeO.bind ?_ (fun _ => ?_)
    · intro y0 y1 y2 y3 y4 y5 y6 y7 y8
      unfold customslaw33_DiskPrefix.j1
      repeat' first
      | (with_reducible exact ih0 _ _ _ _ _ _ _ _)
      | (with_reducible exact ih1 _ _ _ _ _ _ _ _ _)
      | (with_reducible exact ih2 _ _ _ _ _ _ _ _ _)
      | (with_reducible exact LeO.refl _)
      | (with_reducible exact LeO.none _)
      | (with_reducible refine LeO.ite ?_ ?_)
      | (with_reducible refine LeO.bind ?_ (fun _ => ?_))
      | exact ih0 _ _ _ _ _ _ _ _
      | exact ih1 _ _ _ _ _ _ _ _ _
      | exact ih2 _ _ _ _ _ _ _ _ _
      | exact LeO.none _
      | refine LeO.ite ?_ ?_
      | refine LeO.bind ?_ (fun _ => ?_)
    · intro y0 y1 y2 y3 y4 y5 y6 y7 y8
      unfold customslaw33_DiskPrefix.j2
      repeat' first
      | (with_reducible exact ih0 _ _ _ _ _ _ _ _)
      | (with_reducible exact ih1 _ _ _ _ _ _ _ _ _)
      | (with_reducible exact ih2 _ _ _ _ _ _ _ _ _)
      | (with_reducible exact LeO.refl _)
      | (with_reducible exact LeO.none _)
      | (with_reducible refine LeO.ite ?_ ?_)
      | (with_reducible refine LeO.bind ?_ (fun _ => ?_))
      | exact ih0 _ _ _ _ _ _ _ _
      | exact ih1 _ _ _ _ _ _ _ _ _
      | exact ih2 _ _ _ _ _ _ _ _ _
      | exact LeO.none _
      | refine LeO.ite ?_ ?_
      | refine LeO.bind ?_ (fun _ => ?_)
theorem customslaw33_DiskPrefix.mono : ∀ a0 a1 a2 k, LeO (customslaw33_DiskPrefix.f k a0 a1 a2) (customslaw33_DiskPrefix.f (k + 1) a0 a1 a2) := by
  intro a0 a1 a2 k
  obtain ⟨ih0, ih1, ih2⟩ := customslaw33_DiskPrefix.mono_l k
  unfold customslaw33_DiskPrefix.f
  repeat' first
      | (with_reducible exact ih0 _ _ _ _ _ _ _ _)
      | (with_reducible exact ih1 _ _ _ _ _ _ _ _ _)
      | (with_reducible exact ih2 _ _ _ _ _ _ _ _ _)
      | (with_reducible exact LeO.refl _)
      | (with_reducible exact LeO.none _)
      | (with_reducible refine LeO.ite ?_ ?_)
      | (with_reducible refine LeO.bind ?_ (fun _ => ?_))
      | exact ih0 _ _ _ _ _ _ _ _
      | exact ih1 _ _ _ _ _ _ _ _ _
      | exact ih2 _ _ _ _ _ _ _ _ _
      | exact LeO.none _
      | refine LeO.ite ?_ ?_
      | refine LeO.bind ?_ (fun _ => ?_)
def customslaw33_DiskPrefix.T19 : Bool × List (List Nat × List Nat) := (true, [([], []), ([0], [0]), ([], []), ([1, 2], [1, 2]), ([3], [3]), ([4], [4]), ([5, 4], [4, 5]), ([4], [4]), ([7, 4], [4, 7]), ([6, 8, 4], [4, 6, 8]), ([4, 9], [4, 9]), ([10, 4], [10]), ([11], [11]), ([12, 11], [11, 12]), ([11], [11]), ([11], [11]), ([15, 11], [11, 15]), ([14, 16, 11], [11, 14, 16]), ([17, 11], [11, 17]), ([13, 18, 11], [11, 13, 18]), ([11, 19], [11, 19]), ([20, 11], [20]), ([21], [21]), ([22, 21, 21], [21, 22]), ([23, 21], [21, 23]), ([21], [21]), ([25, 21], [21, 25]), ([24, 26, 21], [21, 24, 26]), ([21, 27], [21, 27]), ([28, 23], [28]), ([29, 29], [29]), ([29, 30], [29, 30]), ([31, 30, 0, 1, 2, 3, 4, 5, 6, 7, 8, 9, 10, 11, 12, 13, 14, 15, 16, 17, 18, 19, 20, 21, 22, 23, 24, 25, 26, 27, 28, 29, 30, 31], [31])])
def customslaw33_DiskPrefix.B19 : List Nat := [0, 1, 0, 7, 15, 31, 63, 31, 159, 511, 1023, 2047, 4095, 8191, 4095, 4095, 36863, 118783, 249855, 524287, 1048575, 2097151, 4194303, 8388607, 16777215, 4194303, 37748735, 134217727, 268435455, 536870911, 1073741823, 2147483647, 4294967295]
theorem customslaw33_DiskPrefix.tab19 : rtab .any (opsOf Try.f4 19) = customslaw33_DiskPrefix.T19 := by kernel_rfl
theorem customslaw33_DiskPrefix.bits19 : waitsOk customslaw33_DiskPrefix.T19.2 customslaw33_DiskPrefix.B19 = true := by kernel_rfl
set_option maxHeartbeats 8000000 in
set_option maxRecDepth 100000 in
theorem customslaw33_DiskPrefix.calls (k : Nat) (P0_ : Nat → Prop) (A0 : Option Addr) (c0 : Nat) (l0 : List (List Int)) (A1 : Option Addr) (c1 : Nat) (l1 : List Bool) (a2 : Int) (r : Bool) (w : World) (hs0 : Kd.V (Kd.slice 5 (Kd.int .u8)) 22 w w.heap.size (fun k_ => P0_ k_) (.slice A0 l0.length c0) l0) (hr1 : Kd.C Kd.bool w A1 l1.length l1) (hc1 : l1.length ≤ c1) (h : customslaw33_DiskPrefix.f k l0 l1 a2 = some r) :
    Calls Try.prog 4 #[.slice A0 l0.length c0, .slice A1 l1.length c1, .int .i64 a2] w fun e w' => e = .returned (.bool r) ∧ Below w.heap.size w w' := by
  have hu24 := Try.underlying24
  have HO0 := Aside0.mk (show Kd.V (Kd.slice 5 (Kd.int .u8)) 22 w w.heap.size (fun k_ => (P0_ k_ ∨ w.heap.size ≤ k_)) (.slice A0 l0.length c0) l0 from Kd.V_mono hs0 (fun k_ hk => .inl hk))
  have HR1 := Aside0.mk hr1
  have HC1 := Aside0.mk hc1
  clear hr1 hc1
  have HB := Aside0.mk (Below.refl w.heap.size w)
  have H : (customslaw33_DiskPrefix.l0 k l0 l1 a2 ([] : List Int) 0 0 ([] : List Int) ([] : List Int)) = some r := h
  clear h
  have H' := Aside0.mk H
  clear H
  go_enter Try.func4, Try.ntmps4
  go_wp2_with (first | ((with_reducible refine gate_dst (N := 7) rfl ?_); (try (refine gate_guard (by rfl) ?_; dsimp only)); refine box_event ?hg (N := 7) ?hd (cs := #[.slice none 0 0, .slice none 0 0]) (t := 24) ?hr ?_; (case hd => rfl); (case hg => rfl); (case hr => first | (go_simp; done) | (go_simp; rfl)); intro gb4001 hg w4 hbox hb; have n2_ := Aside0.mk (hbox); have n3_ := Aside0.mk ((by rw [hg]; exact (below_size (below_ext HB.out)) : w.heap.size ≤ gb4001)); have n4_ := Aside0.mk ((by rw [hg]; exact (below_size (below_ext HB.out)) : w.heap.size ≤ gb4001)); have BK4001 := n2_; have GW4001 := n3_; have GE4001 := n4_; have GI4001 := GE_.mk GE4001.out; replace HO0 := awV HO0 hb gb4001 hg; replace HB := mvH HB hb; clear n2_ n3_ n4_; clear hb hbox hg))
  go_loopg [8, 9, 10] k (fun kq v8 v9 v10 w' => ∃ (x8_1 : List Int) (x9_1 : Int) (x10_1 : Int) (x4002000_1 : List Int) (x4002001_1 : List Int) (u4002000 : Value) (u4002001 : Value), v9 = .int .i64 x9_1 ∧ v10 = .int .i64 x10_1 ∧ Aside0 (customslaw33_DiskPrefix.l0 kq l0 l1 a2 x8_1 x9_1 x10_1 x4002000_1 x4002001_1 = some r) ∧ Aside0 (kq ≤ k) ∧ Aside0 (Kd.V (Kd.slice 5 (Kd.int .u8)) 22 w' w.heap.size (fun k_ => (P0_ k_ ∨ w.heap.size ≤ k_) ∧ some k_ ≠ (v8 : Value).ownBlock ∧ some k_ ≠ (u4002000 : Value).ownBlock ∧ some k_ ≠ (u4002001 : Value).ownBlock ∧ k_ ≠ gb4001) (.slice A0 l0.length c0) l0) ∧ Aside0 (Kd.R (Kd.int .u8) 5 w' w.heap.size (fun k_ => (w.heap.size ≤ k_) ∧ some k_ ≠ (u4002000 : Value).ownBlock ∧ some k_ ≠ (u4002001 : Value).ownBlock) v8 x8_1) ∧ Aside0 (Kd.R (Kd.int .u8) 5 w' w.heap.size (fun k_ => (w.heap.size ≤ k_) ∧ some k_ ≠ (v8 : Value).ownBlock ∧ some k_ ≠ (u4002001 : Value).ownBlock) u4002000 x4002000_1) ∧ Aside0 (Kd.R (Kd.int .u8) 5 w' w.heap.size (fun k_ => (w.heap.size ≤ k_) ∧ some k_ ≠ (v8 : Value).ownBlock ∧ some k_ ≠ (u4002000 : Value).ownBlock) u4002001 x4002001_1) ∧ Aside0 (w'.heap[gb4001]? = some (.cells #[u4002000, u4002001] 24 (0, 0))) ∧ Aside0 (Below w.heap.size w w'))
  case atStart => exact ⟨(([] : List Int)), (0), (0), (([] : List Int)), (([] : List Int)), (.slice none 0 0), (.slice none 0 0), (by first | rfl | (simp; done) | (simp [*]; done)), (by first | rfl | (simp; done) | (simp [*]; done)), H', ⟨Nat.le_refl _⟩, ⟨Kd.V_ext (Kd.V_mono HO0.out (fun _ hk => ⟨hk.1, ⟨(by simp [Value.ownBlock]), ⟨(by simp [Value.ownBlock]), ⟨(by simp [Value.ownBlock]), hk.2⟩⟩⟩⟩))⟩, ⟨by first | exact Kd.R_nil _ _ _ _ _ | exact Kd.N_nil _ _ _ _ _ | exact Kd.V_nil _ _ _ _ _ | exact Kd.Q_nil _ _ _ _ _ | exact Kd.S_nil _ _ _ _ _⟩, ⟨by first | exact Kd.R_nil _ _ _ _ _ | exact Kd.N_nil _ _ _ _ _ | exact Kd.V_nil _ _ _ _ _ | exact Kd.Q_nil _ _ _ _ _ | exact Kd.S_nil _ _ _ _ _⟩, ⟨by first | exact Kd.R_nil _ _ _ _ _ | exact Kd.N_nil _ _ _ _ _ | exact Kd.V_nil _ _ _ _ _ | exact Kd.Q_nil _ _ _ _ _ | exact Kd.S_nil _ _ _ _ _⟩, ⟨blk_ext BK4001.out⟩, ⟨below_extB HB.out⟩⟩
  case round =>
    clear H'
    try clear c1
    try clear p2
    try clear c4
    obtain ⟨x8_1, x9_1, x10_1, x4002000_1, x4002001_1, u4002000, u4002001, rfl, rfl, HA, HK1, HO_0, HO_8, HO_4002000, HO_4002001, BK4001, HB⟩ := hrel
    cases gk with
    | zero => exact absurd HA.out (by simp [customslaw33_DiskPrefix.l0])
    | succ k1 =>
      have H := HA.out
      clear HA
      simp only [customslaw33_DiskPrefix.l0] at H
      have HC5 := Aside0.mk H
      clear H
      go_upto_region 5 with (fail)
      go_cut [22] (fun v22 wc => ∃ (kq : Nat) (x22_4 : Bool), v22 = .bool x22_4 ∧ Aside0 (customslaw33_DiskPrefix.j1 kq l0 l1 a2 x8_1 x9_1 x10_1 x22_4 x4002000_1 x4002001_1 = some r) ∧ Aside0 (kq ≤ k1) ∧ Aside0 (Kd.V (Kd.slice 5 (Kd.int .u8)) 22 wc w.heap.size (fun k_ => (P0_ k_ ∨ w.heap.size ≤ k_) ∧ some k_ ≠ (u8 : Value).ownBlock ∧ some k_ ≠ (u4002000 : Value).ownBlock ∧ some k_ ≠ (u4002001 : Value).ownBlock ∧ k_ ≠ gb4001) (.slice A0 l0.length c0) l0) ∧ Aside0 (Kd.R (Kd.int .u8) 5 wc w.heap.size (fun k_ => (w.heap.size ≤ k_) ∧ some k_ ≠ (u4002000 : Value).ownBlock ∧ some k_ ≠ (u4002001 : Value).ownBlock) u8 x8_1) ∧ Aside0 (Kd.R (Kd.int .u8) 5 wc w.heap.size (fun k_ => (w.heap.size ≤ k_) ∧ some k_ ≠ (u8 : Value).ownBlock ∧ some k_ ≠ (u4002001 : Value).ownBlock) u4002000 x4002000_1) ∧ Aside0 (Kd.R (Kd.int .u8) 5 wc w.heap.size (fun k_ => (w.heap.size ≤ k_) ∧ some k_ ≠ (u8 : Value).ownBlock ∧ some k_ ≠ (u4002000 : Value).ownBlock) u4002001 x4002001_1) ∧ Aside0 (wc.heap[gb4001]? = some (.cells #[u4002000, u4002001] 24 (0, 0))) ∧ Aside0 (Below w.heap.size w wc))
      case first =>
        have H := HC5.out
        clear HC5
        by_cases c6 : x10_1 < (l0.length : Int)
        · rw [if_pos c6] at H
          have c6b0 : decide (x10_1 < (l0.length : Int)) = true := decide_eq_true c6
          clear c6
          (first | rw [c6b0] | (simp only [i64_w, i32_w]; rw [c6b0]) | skip)
          have H' := Aside0.mk H
          clear H
          go_wp2
          go_meet
          case rel => exact ⟨_, (decide (x10_1 < 30)), (by first | rfl | (simp; done) | (simp [*]; done)), H', ⟨by have := HK1.out; first | omega | exact Nat.le_refl _⟩, ⟨Kd.V_ext HO_0.out⟩, ⟨Kd.R_ext HO_8.out⟩, ⟨Kd.R_ext HO_4002000.out⟩, ⟨Kd.R_ext HO_4002001.out⟩, ⟨blk_ext BK4001.out⟩, ⟨below_extB HB.out⟩⟩
        · rw [if_neg c6] at H
          have c6b0 : decide (x10_1 < (l0.length : Int)) = false := decide_eq_false c6
          clear c6
          (first | rw [c6b0] | (simp only [i64_w, i32_w]; rw [c6b0]) | skip)
          have H' := Aside0.mk H
          clear H
          go_wp2
          go_meet
          case rel => exact ⟨_, (false), (by first | rfl | (simp; done) | (simp [*]; done)), H', ⟨by have := HK1.out; first | omega | exact Nat.le_refl _⟩, ⟨Kd.V_ext HO_0.out⟩, ⟨Kd.R_ext HO_8.out⟩, ⟨Kd.R_ext HO_4002000.out⟩, ⟨Kd.R_ext HO_4002001.out⟩, ⟨blk_ext BK4001.out⟩, ⟨below_extB HB.out⟩⟩
      case rest =>
        clear HC5
        try clear c1
        try clear p2
        try clear c4
        try clear c6
        try clear c6b0
        try clear p2
        obtain ⟨kq, x22_4, rfl, HA, HJ4, HO_0, HO_8, HO_4002000, HO_4002001, BK4001, HB⟩ := hcut
        cases kq with
        | zero => exact absurd HA.out (by simp [customslaw33_DiskPrefix.j1])
        | succ kj4 =>
          have H := HA.out
          clear HA
          simp only [customslaw33_DiskPrefix.j1] at H
          by_cases c7 : x22_4 = true
          · subst c7
            have H1 : (if 0 ≤ x10_1 then (if x10_1 < (l0.length : Int) then (if ((rd_L1 l0 x10_1).length : Int) > 1000 then (if 1000 ≤ ((rd_L1 l0 x10_1).length : Int) then (customslaw33_DiskPrefix.j2 kj4 l0 l1 a2 x8_1 x9_1 x10_1 ((rd_L1 l0 x10_1).take 1000) x4002000_1 x4002001_1) else (none)) else (customslaw33_DiskPrefix.j2 kj4 l0 l1 a2 x8_1 x9_1 x10_1 (rd_L1 l0 x10_1) x4002000_1 x4002001_1)) else (none)) else (none)) = some r := by rw [if_pos rfl] at H; exact H
            clear H
            have H := H1
            clear H1
            replace H := if_some H; obtain ⟨c8, H⟩ := H
            have c8b0 : decide (0 ≤ x10_1) = true := decide_eq_true c8
            clear c8
            replace H := if_some H; obtain ⟨c9, H⟩ := H
            have c9b0 : decide (x10_1 < (l0.length : Int)) = true := decide_eq_true c9
            clear c9
            have HC10 := Aside0.mk H
            clear H
            have p4002 : 0 ≤ (x10_1 : Int) := of_decide_eq_true (by first | (with_reducible assumption) | assumption)
            have q4002 : x10_1 < (l0.length : Int) := of_decide_eq_true (by first | (with_reducible assumption) | assumption)
            obtain ⟨ad4002, A4002_0, c4002_0, e4002, hx4002_0, hl4002_0, hi4002_0⟩ := at_L1 (Kd.V_reads' HO_0.out).2.2 x10_1 p4002 q4002
            cases e4002
            obtain ⟨ce4002, hce4002, hMe4002, hcc4002⟩ := Kd.V_get HO_0.out [] x10_1 p4002 (by first | exact q4002 | exact of_decide_eq_true (by first | (with_reducible assumption) | assumption) | (have e_ := (Kd.V_reads' HO_0.out).1; omega))
            obtain ⟨ua4002_0, uc4002_0, rfl, ul4002_0, ge4002_0⟩ := Kd.FK_slice_open hMe4002
            have hv4002_0 := hcc4002 0 _ rfl
            rw [Nat.add_zero, show ((Kd.slice 5 (Kd.int .u8))).sz = 1 from rfl, Nat.mul_one] at hv4002_0
            replace hv4002_0 := Option.some.inj (hv4002_0.symm.trans hx4002_0)
            injection hv4002_0 with hva_ hvn_ hvc_
            rw [hva_] at ge4002_0
            rw [hvc_] at ul4002_0
            have HL4002_0 := Aside0.mk (show Kd.V (Kd.int .u8) 5 _ w.heap.size _ _ (rd_L1 l0 x10_1) from Kd.V_mk ul4002_0 ge4002_0)
            clear hva_ hvn_ hvc_ ge4002_0 ul4002_0
            clear hcc4002 hce4002
            have HR4002_0 := Aside0.mk hi4002_0
            have HC4002_0 := Aside0.mk hl4002_0
            clear hi4002_0 hl4002_0
            replace p4002 := eq_true p4002
            replace q4002 := eq_true q4002
            go_upto_if 31 with (fail)
            go_cut [11] (fun v11 wc => ∃ (kq : Nat) (x11_9 : List Int), Aside0 (customslaw33_DiskPrefix.j2 kq l0 l1 a2 x8_1 x9_1 x10_1 x11_9 x4002000_1 x4002001_1 = some r) ∧ Aside0 (kq ≤ kj4) ∧ Aside0 (Kd.V (Kd.slice 5 (Kd.int .u8)) 22 wc w.heap.size (fun k_ => (P0_ k_ ∨ w.heap.size ≤ k_) ∧ some k_ ≠ (u8 : Value).ownBlock ∧ some k_ ≠ (u4002000 : Value).ownBlock ∧ some k_ ≠ (u4002001 : Value).ownBlock ∧ k_ ≠ gb4001) (.slice (some ad4002) l0.length c0) l0) ∧ Aside0 (Kd.R (Kd.int .u8) 5 wc w.heap.size (fun k_ => (w.heap.size ≤ k_) ∧ some k_ ≠ (u4002000 : Value).ownBlock ∧ some k_ ≠ (u4002001 : Value).ownBlock) u8 x8_1) ∧ Aside0 (Kd.V (Kd.int .u8) 5 wc w.heap.size (fun k_ => (P0_ k_ ∨ w.heap.size ≤ k_) ∧ some k_ ≠ (u8 : Value).ownBlock ∧ some k_ ≠ (u4002000 : Value).ownBlock ∧ some k_ ≠ (u4002001 : Value).ownBlock ∧ k_ ≠ gb4001) v11 x11_9) ∧ Aside0 (Kd.R (Kd.int .u8) 5 wc w.heap.size (fun k_ => (w.heap.size ≤ k_) ∧ some k_ ≠ (u8 : Value).ownBlock ∧ some k_ ≠ (u4002001 : Value).ownBlock) u4002000 x4002000_1) ∧ Aside0 (Kd.R (Kd.int .u8) 5 wc w.heap.size (fun k_ => (w.heap.size ≤ k_) ∧ some k_ ≠ (u8 : Value).ownBlock ∧ some k_ ≠ (u4002000 : Value).ownBlock) u4002001 x4002001_1) ∧ Aside0 (wc.heap[gb4001]? = some (.cells #[u4002000, u4002001] 24 (0, 0))) ∧ Aside0 (Kd.C (Kd.int .u8) wc A4002_0 (rd_L1 l0 x10_1).length (rd_L1 l0 x10_1)) ∧ Aside0 (Below w.heap.size w wc))
            case first =>
              have H := HC10.out
              clear HC10
              by_cases c11 : ((rd_L1 l0 x10_1).length : Int) > 1000
              · rw [if_pos c11] at H
                have c11b0 : decide (1000 < ((rd_L1 l0 x10_1).length : Int)) = true := decide_eq_true c11
                have c11b1 : decide (1000 < (rd_L1 l0 x10_1).length) = true := decide_eq_true (by omega)
                clear c11
                (first | rw [c11b0] | (simp only [i64_w, i32_w]; rw [c11b0]) | skip)
                replace H := if_some H; obtain ⟨c12, H⟩ := H
                have c12b0 := eq_true c12
                have c12b1 : decide (1000 ≤ ((rd_L1 l0 x10_1).length : Int)) = true := decide_eq_true c12
                clear c12
                obtain ⟨y4003, hy4003⟩ : ∃ y_ : List Int, y_ = ((rd_L1 l0 x10_1).take 1000) := ⟨_, rfl⟩
                replace H : (customslaw33_DiskPrefix.j2 kj4 l0 l1 a2 x8_1 x9_1 x10_1 y4003 x4002000_1 x4002001_1) = some r := by first | (rw [hy4003]; with_reducible exact H) | (have H2_ := (Option.bind_some _ _).symm.trans H; rw [hy4003]; with_reducible exact H2_) | (have H2_ := (Option.bind_some _ _).symm.trans H; with_reducible exact H2_) | with_reducible exact H | (rw [hy4003]; exact H) | exact H
                have Ny4003 := Aside0.mk hy4003
                clear hy4003
                have H' := Aside0.mk H
                clear H
                have q13 : (1000 : Int) ≤ (((rd_L1 l0 x10_1).length : Int) : Int) := of_decide_eq_true (by first | (with_reducible assumption) | assumption)
                obtain ⟨i013, hi013, _, hsz13, _⟩ := info_parts info5
                have hroom13 : (rd_L1 l0 x10_1).length ≤ c4002_0 := HC4002_0.out
                have hC13 : Kd.F (Kd.int .u8) _ _ A4002_0 (rd_L1 l0 x10_1).length (rd_L1 l0 x10_1) := (Kd.V_at (base := w.heap.size) HL4002_0.out).2.2
                have hcut13 := cut_to (P := Try.prog) 22 5 .i64 Try.underlying22 hi013 A4002_0 (rd_L1 l0 x10_1).length c4002_0 1000 (by omega) q13 hroom13
                have hr13 := Kd.F_take (m := 1000) hC13 (by omega)
                have hy13 : y4003.length = (1000 : Int).toNat := (by rw [Ny4003.out, List.length_take]; omega)
                rw [← Ny4003.out] at hr13
                rw [← hy13] at hcut13
                have HO4007 := Aside0.mk (show Kd.V (Kd.int .u8) 5 _ w.heap.size _ (.slice A4002_0 y4003.length c4002_0) y4003 from Kd.V_mk (by omega) hr13)
                have HC4007 := Aside0.mk (show y4003.length ≤ c4002_0 from by omega)
                clear hr13 hC13 hroom13 hi013 hsz13
                have KY13 := Aside0.mk hy13
                clear hy13
                replace q13 := eq_true q13
                go_wp2
                go_meet
                case rel => exact ⟨_, (y4003), H', ⟨by have := HK1.out; have := HJ4.out; first | omega | exact Nat.le_refl _⟩, ⟨Kd.V_ext HO_0.out⟩, ⟨Kd.R_ext HO_8.out⟩, ⟨Kd.V_ext HO4007.out⟩, ⟨Kd.R_ext HO_4002000.out⟩, ⟨Kd.R_ext HO_4002001.out⟩, ⟨blk_ext BK4001.out⟩, ⟨by repeat (first | (with_reducible exact HR4002_0.out) | (with_reducible refine Kd.C_alloc ?_ _) | (with_reducible refine Kd.C_drewN ?_ _) | (with_reducible refine Kd.C_drew ?_) | exact HR4002_0.out)⟩, ⟨below_extB HB.out⟩⟩
              · rw [if_neg c11] at H
                have c11b0 : decide (1000 < ((rd_L1 l0 x10_1).length : Int)) = false := decide_eq_false c11
                have c11b1 : decide (1000 < (rd_L1 l0 x10_1).length) = false := decide_eq_false (by omega)
                clear c11
                (first | rw [c11b0] | (simp only [i64_w, i32_w]; rw [c11b0]) | skip)
                have H' := Aside0.mk H
                clear H
                go_wp2
                go_meet
                case rel => exact ⟨_, (rd_L1 l0 x10_1), H', ⟨by have := HK1.out; have := HJ4.out; first | omega | exact Nat.le_refl _⟩, ⟨Kd.V_ext HO_0.out⟩, ⟨Kd.R_ext HO_8.out⟩, ⟨Kd.V_ext HL4002_0.out⟩, ⟨Kd.R_ext HO_4002000.out⟩, ⟨Kd.R_ext HO_4002001.out⟩, ⟨blk_ext BK4001.out⟩, ⟨by repeat (first | (with_reducible exact HR4002_0.out) | (with_reducible refine Kd.C_alloc ?_ _) | (with_reducible refine Kd.C_drewN ?_ _) | (with_reducible refine Kd.C_drew ?_) | exact HR4002_0.out)⟩, ⟨below_extB HB.out⟩⟩
            case rest =>
              clear HC10
              try clear c1
              try clear q1
              try clear p2
              try clear c4
              try clear p4
              try clear q4
              try clear hx4
              try clear c6
              try clear c6b0
              try clear c7
              try clear c8
              try clear c8b0
              try clear c9
              try clear c9b0
              try clear c11
              try clear c11b0
              try clear c11b1
              try clear c12
              try clear c12b0
              try clear c12b1
              try clear q13
              try clear hx4002_0
              try clear p2
              try clear p4002
              try clear q13
              try clear q4002
              obtain ⟨kq, x11_9, HA, HJ9, HO_0, HO_8, HO_11, HO_4002000, HO_4002001, BK4001, HR4002_0, HB⟩ := hcut
              cases kq with
              | zero => exact absurd HA.out (by simp [customslaw33_DiskPrefix.j2])
              | succ kj9 =>
                have H := HA.out
                clear HA
                simp only [customslaw33_DiskPrefix.j2] at H
                replace H := Option.bind_eq_some_iff.mp H
                obtain ⟨⟨t4008, t4011, t4014⟩, A140, H⟩ := H
                try dsimp only at H
                have A14 := Aside0.mk A140
                clear A140
                replace H := if_some H; obtain ⟨c15, H⟩ := H
                have c15b0 : (t4014 == 0) = true := beq_iff_eq.mpr c15
                have c15b1 : (t4014 != 0) = false := bne_eq_false_iff_eq.mpr c15
                clear c15
                replace H := if_some H; obtain ⟨c16, H⟩ := H
                have LMc16 := Aside0.mk c16
                clear c16
                obtain ⟨y4016, hy4016⟩ : ∃ y_ : List Int, y_ = (x8_1 ++ x11_9) := ⟨_, rfl⟩
                replace H : (if x10_1 < (l1.length : Int) then (if 0 ≤ x10_1 then (if rdOf false l1 x10_1 = true then ((disk_Sync.f t4008 t4011).bind fun bt4020 => (customslaw33_DiskPrefix.l0 kj9 l0 l1 a2 y4016 (y4016.length : Int) (wrap64 (x10_1 + 1)) bt4020.1 bt4020.2)) else (customslaw33_DiskPrefix.l0 kj9 l0 l1 a2 y4016 x9_1 (wrap64 (x10_1 + 1)) t4008 t4011)) else (none)) else (customslaw33_DiskPrefix.l0 kj9 l0 l1 a2 y4016 x9_1 (wrap64 (x10_1 + 1)) t4008 t4011)) = some r := by first | (rw [hy4016]; with_reducible exact H) | (have H2_ := (Option.bind_some _ _).symm.trans H; rw [hy4016]; with_reducible exact H2_) | (have H2_ := (Option.bind_some _ _).symm.trans H; with_reducible exact H2_) | with_reducible exact H | (rw [hy4016]; exact H) | exact H
                have Ny4016 := Aside0.mk hy4016
                clear hy4016
                by_cases c17 : x10_1 < (l1.length : Int)
                · rw [if_pos c17] at H
                  have c17b0 : decide (x10_1 < (l1.length : Int)) = true := decide_eq_true c17
                  clear c17
                  replace H := if_some H; obtain ⟨c18, H⟩ := H
                  have c18b0 : decide (0 ≤ x10_1) = true := decide_eq_true c18
                  clear c18
                  obtain ⟨bq19, hbq19⟩ : ∃ b_ : Bool, b_ = (rdOf false l1 x10_1) := ⟨_, rfl⟩
                  replace H : (if bq19 = true then ((disk_Sync.f t4008 t4011).bind fun bt4020 => (customslaw33_DiskPrefix.l0 kj9 l0 l1 a2 y4016 (y4016.length : Int) (wrap64 (x10_1 + 1)) bt4020.1 bt4020.2)) else (customslaw33_DiskPrefix.l0 kj9 l0 l1 a2 y4016 x9_1 (wrap64 (x10_1 + 1)) t4008 t4011)) = some r := by rw [← hbq19] at H; exact H
                  have Nbq19 := Aside0.mk hbq19
                  clear hbq19
                  by_cases c20 : bq19 = true
                  · subst c20
                    have H1 : ((disk_Sync.f t4008 t4011).bind fun bt4020 => (customslaw33_DiskPrefix.l0 kj9 l0 l1 a2 y4016 (y4016.length : Int) (wrap64 (x10_1 + 1)) bt4020.1 bt4020.2)) = some r := by rw [if_pos rfl] at H; exact H
                    clear H
                    have H := H1
                    clear H1
                    replace H := Option.bind_eq_some_iff.mp H
                    obtain ⟨⟨t4020, t4023⟩, A210, H⟩ := H
                    try dsimp only at H
                    have A21 := Aside0.mk A210
                    clear A210
                    have H' := Aside0.mk H
                    clear H
                    have hcz22_0 : wc.cell? ⟨gb4001, 0, none⟩ = some (u4002000) := (blk_cell BK4001.out 0).trans rfl
                    have hcz22_1 : wc.cell? ⟨gb4001, 1, none⟩ = some (u4002001) := (blk_cell BK4001.out 1).trans rfl
                    have hfz22_0 := blk_frozen BK4001.out 0
                    have hfz22_1 := blk_frozen BK4001.out 1
                    obtain ⟨Ao23, co23, eo23⟩ := Kd.R_slice HO_4002000.out
                    subst eo23
                    obtain ⟨Ao24, co24, eo24⟩ := Kd.R_slice HO_4002001.out
                    subst eo24
                    obtain ⟨Ao25, co25, eo25⟩ := Kd.V_slice HO_11.out
                    subst eo25
                    go_wp2_with (first | ((with_reducible refine gate_callee (f := 16) rfl ?_); refine goesL_ (some 37) rfl rfl Try.func16 (by kernel_rfl) rfl #[.agg #[.slice Ao23 x4002000_1.length co23, .slice Ao24 x4002001_1.length co24], .slice Ao25 x11_9.length co25] rfl (by (try simp only [List.map_toArray, List.map_cons, List.map_nil]); first | done | rfl | (simp only [List.length_drop, List.length_take]; rfl)) ?_; (with_reducible refine (disk_Write.calls _ _ x4002000_1 _ _ x4002001_1 _ _ x11_9 t4008 t4011 t4014 _ ?side1 ?side2 ?side3 ?side4 ?side5 ?side6 A14.out).mono ?_); (case side1 => exact Kd.C_ext (Kd.R_reads' HO_4002000.out).2.2); (case side2 => exact (Kd.R_reads' HO_4002000.out).2.1); (case side3 => exact Kd.C_ext (Kd.R_reads' HO_4002001.out).2.2); (case side4 => exact (Kd.R_reads' HO_4002001.out).2.1); (case side5 => exact Kd.C_ext (Kd.V_reads' HO_11.out).2.2); (case side6 => exact (Kd.V_reads' HO_11.out).2.1); rintro e w26 ⟨v4009, v4012, rfl, ho0, ho1, hb⟩; refine ⟨_, rfl, ?_⟩; have n5_ := Aside0.mk (Kd.R_lower (Kd.R_new' (Kd.R_new' (Kd.R_new' (Kd.R_newM (M := fun k_ => (w.heap.size ≤ k_)) ho0 (below_size (below_extB HB.out)) (fun k_ h_ => h_)) (Kd.R_lt (Kd.R_ext HO_8.out))) (Kd.R_lt (Kd.R_ext HO_4002000.out))) (Kd.R_lt (Kd.R_ext HO_4002001.out))) (below_size (below_extB HB.out))); have n6_ := Aside0.mk (Kd.R_lower (Kd.R_new' (Kd.R_new' (Kd.R_new' (Kd.R_newM (M := fun k_ => (w.heap.size ≤ k_)) ho1 (below_size (below_extB HB.out)) (fun k_ h_ => h_)) (Kd.R_lt (Kd.R_ext HO_8.out))) (Kd.R_lt (Kd.R_ext HO_4002000.out))) (Kd.R_lt (Kd.R_ext HO_4002001.out))) (below_size (below_extB HB.out))); have HO4010 := n5_; have HO4013 := n6_; replace HO_0 := tdV2 HO_0 hb (Kd.R_base ho0) (Kd.R_base ho1); replace HO_8 := tdR2 HO_8 hb (Kd.R_base ho0) (Kd.R_base ho1); replace HO_11 := tdV2 HO_11 hb (Kd.R_base ho0) (Kd.R_base ho1); replace HO_4002000 := tdR2 HO_4002000 hb (Kd.R_base ho0) (Kd.R_base ho1); replace HO_4002001 := tdR2 HO_4002001 hb (Kd.R_base ho0) (Kd.R_base ho1); replace BK4001 := mvB BK4001 hb; replace HR4002_0 := mvC HR4002_0 hb; replace HB := mvH HB hb; clear n5_ n6_; (try clear hb); (try clear hb2); (try clear hk); (try clear hi); (try clear ho0); (try clear ho1)) | ((with_reducible refine gate_dst (N := 12) rfl ?_); (try (refine gate_guard (by rfl) ?_; dsimp only)); refine box_event ?hg (N := 12) ?hd (cs := #[.slice none 0 0, .slice none 0 0]) (t := 24) ?hr ?_; (case hd => rfl); (case hg => rfl); (case hr => first | (go_simp; done) | (go_simp; rfl)); intro gb4015 hg w27 hbox hb; have n10_ := Aside0.mk (hbox); have n11_ := Aside0.mk ((by rw [hg]; exact (below_size (below_extB HB.out)) : w.heap.size ≤ gb4015)); have n12_ := Aside0.mk ((by rw [hg]; exact (below_size (below_extB HB.out)) : w.heap.size ≤ gb4015)); have n13_ := Aside0.mk ((by rw [hg]; exact Nat.ne_of_lt (blk_lt (blk_ext BK4001.out)) : gb4001 ≠ gb4015)); have n14_ := Aside0.mk ((by rw [hg]; exact Nat.ne_of_gt (blk_lt (blk_ext BK4001.out)) : gb4015 ≠ gb4001)); have BK4015 := n10_; have GW4015 := n11_; have GE4015 := n12_; have GI4015 := GE_.mk GE4015.out; have NB4001_4015 := n13_; have NB4015_4001 := n14_; replace HO_0 := awV HO_0 hb gb4015 hg; replace HO_8 := mvR HO_8 hb; replace HO_11 := awV HO_11 hb gb4015 hg; replace HO_4002000 := mvR HO_4002000 hb; replace HO_4002001 := mvR HO_4002001 hb; replace HO4010 := mvR HO4010 hb; replace HO4013 := mvR HO4013 hb; replace BK4001 := mvB BK4001 hb; replace HR4002_0 := mvC HR4002_0 hb; replace HB := mvH HB hb; clear n10_ n11_ n12_ n13_ n14_; clear hb hbox hg; obtain ⟨Ao28, co28, eo28⟩ := Kd.R_slice HO4010.out; subst eo28; have hnb29 := NB4015_4001.out; have hnc29 := NB4001_4015.out; have hcz30_0 : w27.cell? ⟨gb4015, 0, none⟩ = some (.slice none 0 0) := (blk_cell BK4015.out 0).trans rfl; have hcz30_1 : w27.cell? ⟨gb4015, 1, none⟩ = some (.slice none 0 0) := (blk_cell BK4015.out 1).trans rfl; have hfz30_0 := blk_frozen BK4015.out 0; have hfz30_1 := blk_frozen BK4015.out 1; obtain ⟨Ao31, co31, eo31⟩ := Kd.R_slice HO4013.out; subst eo31; have hcz32_0 : w27.cell? ⟨gb4001, 0, none⟩ = some (.slice Ao23 x4002000_1.length co23) := (blk_cell BK4001.out 0).trans rfl; have hcz32_1 : w27.cell? ⟨gb4001, 1, none⟩ = some (.slice Ao24 x4002001_1.length co24) := (blk_cell BK4001.out 1).trans rfl; have hfz32_0 := blk_frozen BK4001.out 0; have hfz32_1 := blk_frozen BK4001.out 1) | ((with_reducible refine gate_builtin (b := .append) (xs := #[.tmp 43, .tmp 44]) rfl ?_); (try (refine gate_guard (by rfl) ?_; dsimp only)); at_builtin; refine Kd.R_append_rows (Kd.int .u8) (w0 := w) w.heap.size rfl (.tmp 43) (.tmp 44) 22 5 (.int .u8 0) 1 rfl Try.underlying22 info5 rfl (by decide) (by omega) u8 x8_1 x11_9 _ _ _ (fun k_ => (w.heap.size ≤ k_) ∧ some k_ ≠ (.slice Ao23 x4002000_1.length co23 : Value).ownBlock ∧ some k_ ≠ (.slice Ao24 x4002001_1.length co24 : Value).ownBlock ∧ some k_ ≠ (.slice Ao28 t4008.length co28 : Value).ownBlock ∧ some k_ ≠ (.slice Ao31 t4011.length co31 : Value).ownBlock) (fun _ => False) rfl rfl ?aO ?aR (fun _ _ h => h) (fun _ h => h.elim) ?aF ?aB ?aS ?aL ?_; (case aR => refine (Kd.V_reads' (e := 5) (base := w.heap.size) (ok := fun k_ => ((((((P0_ k_ ∨ w.heap.size ≤ k_)) ∧ (some k_ ≠ (u8 : Value).ownBlock ∧ (some k_ ≠ (.slice Ao23 x4002000_1.length co23 : Value).ownBlock ∧ (some k_ ≠ (.slice Ao24 x4002001_1.length co24 : Value).ownBlock ∧ k_ ≠ gb4001)))) ∧ some k_ ≠ (.slice Ao28 t4008.length co28 : Value).ownBlock) ∧ some k_ ≠ (.slice Ao31 t4011.length co31 : Value).ownBlock) ∧ k_ ≠ gb4015)) (n := x11_9.length) (c := co25) ?_).2.2; exact (Kd.V_ext ((Kd.V_mono (Kd.V_mono (Kd.V_far (p := ⟨gb4001, 1, none⟩) (Kd.V_far (p := ⟨gb4001, 0, none⟩) (Kd.V_far (p := ⟨gb4015, 1, none⟩) (Kd.V_far (p := ⟨gb4015, 0, none⟩) (Kd.V_mono (Kd.V_mono HO_11.out (fun k_ hk => (⟨hk, hk.2⟩ : _ ∧ k_ ≠ gb4015))) (fun k_ hk => (⟨hk, hk.1.1.1.1.2.2.2.2⟩ : _ ∧ k_ ≠ gb4001))) (fun _ hk => hk.1.2) (.slice Ao28 t4008.length co28)) (fun _ hk => hk.1.2) (.slice Ao31 t4011.length co31)) (fun _ hk => hk.2) (.slice Ao28 t4008.length co28)) (fun _ hk => hk.2) (.slice Ao31 t4011.length co31)) (fun _ h_ => h_.1)) (fun _ h_ => h_.1))))); (case aB => exact (below_extB HB.out)); (case aF => exact (fun k_ hk => ⟨(Nat.le_trans (below_size (below_extB HB.out)) hk), Kd.fresh' (Kd.R_lt (Kd.R_ext ((Kd.R_mono (Kd.R_mono (Kd.R_far (p := ⟨gb4001, 1, none⟩) (Kd.R_far (p := ⟨gb4001, 0, none⟩) (Kd.R_far (p := ⟨gb4015, 1, none⟩) (Kd.R_far (p := ⟨gb4015, 0, none⟩) (Kd.R_types (Kd.R_types HO_4002000.out BK4015.out (by decide)) BK4001.out (by decide)) (fun _ hk => hk.1.2) (.slice Ao28 t4008.length co28)) (fun _ hk => hk.1.2) (.slice Ao31 t4011.length co31)) (fun _ hk => hk.2) (.slice Ao28 t4008.length co28)) (fun _ hk => hk.2) (.slice Ao31 t4011.length co31)) (fun _ h_ => h_.1)) (fun _ h_ => h_.1))))) k_ hk, Kd.fresh' (Kd.R_lt (Kd.R_ext ((Kd.R_mono (Kd.R_mono (Kd.R_far (p := ⟨gb4001, 1, none⟩) (Kd.R_far (p := ⟨gb4001, 0, none⟩) (Kd.R_far (p := ⟨gb4015, 1, none⟩) (Kd.R_far (p := ⟨gb4015, 0, none⟩) (Kd.R_types (Kd.R_types HO_4002001.out BK4015.out (by decide)) BK4001.out (by decide)) (fun _ hk => hk.1.2) (.slice Ao28 t4008.length co28)) (fun _ hk => hk.1.2) (.slice Ao31 t4011.length co31)) (fun _ hk => hk.2) (.slice Ao28 t4008.length co28)) (fun _ hk => hk.2) (.slice Ao31 t4011.length co31)) (fun _ h_ => h_.1)) (fun _ h_ => h_.1))))) k_ hk, Kd.fresh' (Kd.R_lt (Kd.R_ext ((Kd.R_mono (Kd.R_mono (Kd.R_far (p := ⟨gb4001, 1, none⟩) (Kd.R_far (p := ⟨gb4001, 0, none⟩) (Kd.R_far (p := ⟨gb4015, 1, none⟩) (Kd.R_far (p := ⟨gb4015, 0, none⟩) (Kd.R_types (Kd.R_types HO4010.out BK4015.out (by decide)) BK4001.out (by decide)) (fun _ hk => hk.1.2) (.slice Ao28 t4008.length co28)) (fun _ hk => hk.1.2) (.slice Ao31 t4011.length co31)) (fun _ hk => hk.2) (.slice Ao28 t4008.length co28)) (fun _ hk => hk.2) (.slice Ao31 t4011.length co31)) (fun _ h_ => h_.1)) (fun _ h_ => h_.1))))) k_ hk, Kd.fresh' (Kd.R_lt (Kd.R_ext ((Kd.R_mono (Kd.R_mono (Kd.R_far (p := ⟨gb4001, 1, none⟩) (Kd.R_far (p := ⟨gb4001, 0, none⟩) (Kd.R_far (p := ⟨gb4015, 1, none⟩) (Kd.R_far (p := ⟨gb4015, 0, none⟩) (Kd.R_types (Kd.R_types HO4013.out BK4015.out (by decide)) BK4001.out (by decide)) (fun _ hk => hk.1.2) (.slice Ao28 t4008.length co28)) (fun _ hk => hk.1.2) (.slice Ao31 t4011.length co31)) (fun _ hk => hk.2) (.slice Ao28 t4008.length co28)) (fun _ hk => hk.2) (.slice Ao31 t4011.length co31)) (fun _ h_ => h_.1)) (fun _ h_ => h_.1))))) k_ hk⟩)); (case aO => exact (Kd.R_ext (Kd.R_mono (Kd.R_far (p := ⟨gb4001, 1, none⟩) (Kd.R_far (p := ⟨gb4001, 0, none⟩) (Kd.R_far (p := ⟨gb4015, 1, none⟩) (Kd.R_far (p := ⟨gb4015, 0, none⟩) (Kd.R_types (Kd.R_types HO_8.out BK4015.out (by decide)) BK4001.out (by decide)) (fun _ hk => hk.1.2) (.slice Ao28 t4008.length co28)) (fun _ hk => hk.1.2) (.slice Ao31 t4011.length co31)) (fun _ hk => hk.2) (.slice Ao28 t4008.length co28)) (fun _ hk => hk.2) (.slice Ao31 t4011.length co31)) (fun _ hk => ⟨hk.1.1.1.1.1, ⟨hk.1.1.1.1.2.1, ⟨hk.1.1.1.1.2.2, ⟨hk.1.1.1.2, hk.1.1.2⟩⟩⟩⟩)))); (case aS => exact (below_size (below_extB HB.out))); (case aL => have := LMc16.out; omega); intro v4017 w33 ho hb hg hat; rw [← Ny4016.out] at ho; have n0_ := Aside0.mk (Kd.V_afterv (ok := (fun k_ => (P0_ k_ ∨ w.heap.size ≤ k_) ∧ some k_ ≠ (.slice Ao23 x4002000_1.length co23 : Value).ownBlock ∧ some k_ ≠ (.slice Ao24 x4002001_1.length co24 : Value).ownBlock ∧ some k_ ≠ (.slice Ao28 t4008.length co28 : Value).ownBlock ∧ some k_ ≠ (.slice Ao31 t4011.length co31 : Value).ownBlock ∧ k_ ≠ gb4001 ∧ k_ ≠ gb4015)) (Kd.V_ext (Kd.V_mono (Kd.V_far (p := ⟨gb4001, 1, none⟩) (Kd.V_far (p := ⟨gb4001, 0, none⟩) (Kd.V_far (p := ⟨gb4015, 1, none⟩) (Kd.V_far (p := ⟨gb4015, 0, none⟩) (Kd.V_mono (Kd.V_mono HO_0.out (fun k_ hk => (⟨hk, hk.2⟩ : _ ∧ k_ ≠ gb4015))) (fun k_ hk => (⟨hk, hk.1.1.1.1.2.2.2.2⟩ : _ ∧ k_ ≠ gb4001))) (fun _ hk => hk.1.2) (.slice Ao28 t4008.length co28)) (fun _ hk => hk.1.2) (.slice Ao31 t4011.length co31)) (fun _ hk => hk.2) (.slice Ao28 t4008.length co28)) (fun _ hk => hk.2) (.slice Ao31 t4011.length co31)) (fun _ hk => ⟨⟨hk.1.1.1.1.1.1, ⟨hk.1.1.1.1.1.2.2.1, ⟨hk.1.1.1.1.1.2.2.2.1, ⟨hk.1.1.1.1.2, ⟨hk.1.1.1.2, ⟨hk.1.1.1.1.1.2.2.2.2, hk.1.1.2⟩⟩⟩⟩⟩⟩, hk.1.1.1.1.1.2.1⟩))) hg hat); have n1_ := Aside0.mk (Kd.V_afterv (ok := (fun k_ => (P0_ k_ ∨ w.heap.size ≤ k_) ∧ some k_ ≠ (.slice Ao23 x4002000_1.length co23 : Value).ownBlock ∧ some k_ ≠ (.slice Ao24 x4002001_1.length co24 : Value).ownBlock ∧ some k_ ≠ (.slice Ao28 t4008.length co28 : Value).ownBlock ∧ some k_ ≠ (.slice Ao31 t4011.length co31 : Value).ownBlock ∧ k_ ≠ gb4001 ∧ k_ ≠ gb4015)) (Kd.V_ext (Kd.V_mono (Kd.V_far (p := ⟨gb4001, 1, none⟩) (Kd.V_far (p := ⟨gb4001, 0, none⟩) (Kd.V_far (p := ⟨gb4015, 1, none⟩) (Kd.V_far (p := ⟨gb4015, 0, none⟩) (Kd.V_mono (Kd.V_mono HO_11.out (fun k_ hk => (⟨hk, hk.2⟩ : _ ∧ k_ ≠ gb4015))) (fun k_ hk => (⟨hk, hk.1.1.1.1.2.2.2.2⟩ : _ ∧ k_ ≠ gb4001))) (fun _ hk => hk.1.2) (.slice Ao28 t4008.length co28)) (fun _ hk => hk.1.2) (.slice Ao31 t4011.length co31)) (fun _ hk => hk.2) (.slice Ao28 t4008.length co28)) (fun _ hk => hk.2) (.slice Ao31 t4011.length co31)) (fun _ hk => ⟨⟨hk.1.1.1.1.1.1, ⟨hk.1.1.1.1.1.2.2.1, ⟨hk.1.1.1.1.1.2.2.2.1, ⟨hk.1.1.1.1.2, ⟨hk.1.1.1.2, ⟨hk.1.1.1.1.1.2.2.2.2, hk.1.1.2⟩⟩⟩⟩⟩⟩, hk.1.1.1.1.1.2.1⟩))) hg hat); have n2_ := Aside0.mk (Kd.R_after (ok := (fun k_ => (w.heap.size ≤ k_) ∧ some k_ ≠ (.slice Ao24 x4002001_1.length co24 : Value).ownBlock ∧ some k_ ≠ (.slice Ao28 t4008.length co28 : Value).ownBlock ∧ some k_ ≠ (.slice Ao31 t4011.length co31 : Value).ownBlock)) (Kd.R_ext (Kd.R_mono (Kd.R_far (p := ⟨gb4001, 1, none⟩) (Kd.R_far (p := ⟨gb4001, 0, none⟩) (Kd.R_far (p := ⟨gb4015, 1, none⟩) (Kd.R_far (p := ⟨gb4015, 0, none⟩) (Kd.R_types (Kd.R_types HO_4002000.out BK4015.out (by decide)) BK4001.out (by decide)) (fun _ hk => hk.1.2) (.slice Ao28 t4008.length co28)) (fun _ hk => hk.1.2) (.slice Ao31 t4011.length co31)) (fun _ hk => hk.2) (.slice Ao28 t4008.length co28)) (fun _ hk => hk.2) (.slice Ao31 t4011.length co31)) (fun _ hk => ⟨⟨hk.1.1.1.1.1, ⟨hk.1.1.1.1.2.2, ⟨hk.1.1.1.2, hk.1.1.2⟩⟩⟩, hk.1.1.1.1.2.1⟩))) hg hat); have n3_ := Aside0.mk (Kd.R_after (ok := (fun k_ => (w.heap.size ≤ k_) ∧ some k_ ≠ (.slice Ao23 x4002000_1.length co23 : Value).ownBlock ∧ some k_ ≠ (.slice Ao28 t4008.length co28 : Value).ownBlock ∧ some k_ ≠ (.slice Ao31 t4011.length co31 : Value).ownBlock)) (Kd.R_ext (Kd.R_mono (Kd.R_far (p := ⟨gb4001, 1, none⟩) (Kd.R_far (p := ⟨gb4001, 0, none⟩) (Kd.R_far (p := ⟨gb4015, 1, none⟩) (Kd.R_far (p := ⟨gb4015, 0, none⟩) (Kd.R_types (Kd.R_types HO_4002001.out BK4015.out (by decide)) BK4001.out (by decide)) (fun _ hk => hk.1.2) (.slice Ao28 t4008.length co28)) (fun _ hk => hk.1.2) (.slice Ao31 t4011.length co31)) (fun _ hk => hk.2) (.slice Ao28 t4008.length co28)) (fun _ hk => hk.2) (.slice Ao31 t4011.length co31)) (fun _ hk => ⟨⟨hk.1.1.1.1.1, ⟨hk.1.1.1.1.2.2, ⟨hk.1.1.1.2, hk.1.1.2⟩⟩⟩, hk.1.1.1.1.2.1⟩))) hg hat); have n4_ := Aside0.mk (blk_grown (g := gb4001) (o := .cells #[.slice Ao28 t4008.length co28, .slice Ao31 t4011.length co31] 24 (0, 0)) (by (with_reducible repeat (first | refine blk_drewN ?_ _ | refine blk_drew ?_ | refine blk_alloc ?_ _)); refine blk_put (cs := #[.slice Ao28 t4008.length co28, .slice Ao24 x4002001_1.length co24]) ?_ 1 _ rfl; (with_reducible repeat (first | refine blk_drewN ?_ _ | refine blk_drew ?_ | refine blk_alloc ?_ _)); refine blk_put (cs := #[.slice Ao23 x4002000_1.length co23, .slice Ao24 x4002001_1.length co24]) ?_ 0 _ rfl; (with_reducible repeat (first | refine blk_drewN ?_ _ | refine blk_drew ?_ | refine blk_alloc ?_ _)); refine blk_far ?_ NB4001_4015.out _; (with_reducible repeat (first | refine blk_drewN ?_ _ | refine blk_drew ?_ | refine blk_alloc ?_ _)); refine blk_far ?_ NB4001_4015.out _; exact blk_ext BK4001.out) hg (Kd.R_ne HO_8.out BK4001.out (by decide))); have n5_ := Aside0.mk (Kd.R_after (ok := (fun k_ => (w.heap.size ≤ k_) ∧ some k_ ≠ (.slice Ao23 x4002000_1.length co23 : Value).ownBlock ∧ some k_ ≠ (.slice Ao24 x4002001_1.length co24 : Value).ownBlock ∧ some k_ ≠ (.slice Ao31 t4011.length co31 : Value).ownBlock)) (Kd.R_ext (Kd.R_mono (Kd.R_far (p := ⟨gb4001, 1, none⟩) (Kd.R_far (p := ⟨gb4001, 0, none⟩) (Kd.R_far (p := ⟨gb4015, 1, none⟩) (Kd.R_far (p := ⟨gb4015, 0, none⟩) (Kd.R_types (Kd.R_types HO4010.out BK4015.out (by decide)) BK4001.out (by decide)) (fun _ hk => hk.1.2) (.slice Ao28 t4008.length co28)) (fun _ hk => hk.1.2) (.slice Ao31 t4011.length co31)) (fun _ hk => hk.2) (.slice Ao28 t4008.length co28)) (fun _ hk => hk.2) (.slice Ao31 t4011.length co31)) (fun _ hk => ⟨⟨hk.1.1.1.1.1.1, ⟨hk.1.1.1.2, ⟨hk.1.1.2, hk.1.1.1.1.1.2⟩⟩⟩, hk.1.1.1.1.2⟩))) hg hat); have n6_ := Aside0.mk (Kd.R_after (ok := (fun k_ => (w.heap.size ≤ k_) ∧ some k_ ≠ (.slice Ao23 x4002000_1.length co23 : Value).ownBlock ∧ some k_ ≠ (.slice Ao24 x4002001_1.length co24 : Value).ownBlock ∧ some k_ ≠ (.slice Ao28 t4008.length co28 : Value).ownBlock)) (Kd.R_ext (Kd.R_mono (Kd.R_far (p := ⟨gb4001, 1, none⟩) (Kd.R_far (p := ⟨gb4001, 0, none⟩) (Kd.R_far (p := ⟨gb4015, 1, none⟩) (Kd.R_far (p := ⟨gb4015, 0, none⟩) (Kd.R_types (Kd.R_types HO4013.out BK4015.out (by decide)) BK4001.out (by decide)) (fun _ hk => hk.1.2) (.slice Ao28 t4008.length co28)) (fun _ hk => hk.1.2) (.slice Ao31 t4011.length co31)) (fun _ hk => hk.2) (.slice Ao28 t4008.length co28)) (fun _ hk => hk.2) (.slice Ao31 t4011.length co31)) (fun _ hk => ⟨⟨hk.1.1.1.1.1.1, ⟨hk.1.1.1.2, ⟨hk.1.1.2, hk.1.1.1.1.1.2⟩⟩⟩, hk.1.1.1.1.2⟩))) hg hat); have n7_ := Aside0.mk (blk_grown (g := gb4015) (o := .cells #[.slice Ao28 t4008.length co28, .slice Ao31 t4011.length co31] 24 (0, 0)) (by (with_reducible repeat (first | refine blk_drewN ?_ _ | refine blk_drew ?_ | refine blk_alloc ?_ _)); refine blk_far ?_ NB4015_4001.out _; (with_reducible repeat (first | refine blk_drewN ?_ _ | refine blk_drew ?_ | refine blk_alloc ?_ _)); refine blk_far ?_ NB4015_4001.out _; (with_reducible repeat (first | refine blk_drewN ?_ _ | refine blk_drew ?_ | refine blk_alloc ?_ _)); refine blk_put (cs := #[.slice Ao28 t4008.length co28, .slice none 0 0]) ?_ 1 _ rfl; (with_reducible repeat (first | refine blk_drewN ?_ _ | refine blk_drew ?_ | refine blk_alloc ?_ _)); refine blk_put (cs := #[.slice none 0 0, .slice none 0 0]) ?_ 0 _ rfl; exact blk_ext BK4015.out) hg (Kd.R_ne HO_8.out BK4015.out (by decide))); have n8_ := Aside0.mk (hb); have n9_ := Aside0.mk (ho); clear HO_0; clear HO_11; clear HO_4002000; clear HO_4002001; clear BK4001; clear HO4010; clear HO4013; clear BK4015; clear HB; clear HO_8; have HO_0 := n0_; have HO_11 := n1_; have HO_4002000 := n2_; have HO_4002001 := n3_; have BK4001 := n4_; have HO4010 := n5_; have HO4013 := n6_; have BK4015 := n7_; have HB := n8_; have HO4018 := n9_; clear n0_ n1_ n2_ n3_ n4_ n5_ n6_ n7_ n8_ n9_; clear ho hb hg hat; have p4019 : 0 ≤ (x10_1 : Int) := of_decide_eq_true (by first | (with_reducible assumption) | assumption); have q4019 : x10_1 < (l1.length : Int) := of_decide_eq_true (by first | (with_reducible assumption) | assumption); obtain ⟨ad4019, e4019, hx4019_0⟩ := Kd.at_bool HR1.out x10_1 p4019 q4019; (try rw [← Nbq19.out] at hx4019_0); cases e4019; replace hx4019_0 := (HB.out.cell (World.block_lt_of_cell? w _ hx4019_0)).trans hx4019_0; replace p4019 := eq_true p4019; replace q4019 := eq_true q4019; have hcz34_0 : w33.cell? ⟨gb4001, 0, none⟩ = some (.slice Ao28 t4008.length co28) := (blk_cell BK4001.out 0).trans rfl; have hcz34_1 : w33.cell? ⟨gb4001, 1, none⟩ = some (.slice Ao31 t4011.length co31) := (blk_cell BK4001.out 1).trans rfl; have hfz34_0 := blk_frozen BK4001.out 0; have hfz34_1 := blk_frozen BK4001.out 1) | ((with_reducible refine gate_callee (f := 19) rfl ?_); refine goesL_ (some 57) rfl rfl Try.func19 (by kernel_rfl) rfl #[.agg #[.slice Ao28 t4008.length co28, .slice Ao31 t4011.length co31]] rfl (by (try simp only [List.map_toArray, List.map_cons, List.map_nil]); first | done | rfl | (simp only [List.length_drop, List.length_take]; rfl)) ?_; (with_reducible refine (disk_Sync.calls _ _ t4008 _ _ t4011 t4020 t4023 _ ?side1 ?side2 ?side3 ?side4 A21.out).mono ?_); (case side1 => exact Kd.C_ext (Kd.R_reads' HO4010.out).2.2); (case side2 => exact (Kd.R_reads' HO4010.out).2.1); (case side3 => exact Kd.C_ext (Kd.R_reads' HO4013.out).2.2); (case side4 => exact (Kd.R_reads' HO4013.out).2.1); rintro e w35 ⟨v4021, v4024, rfl, ho0, ho1, hb⟩; refine ⟨_, rfl, ?_⟩; have n7_ := Aside0.mk (Kd.R_lower (Kd.R_new' (Kd.R_new' (Kd.R_new' (Kd.R_new' (Kd.R_new' (Kd.R_newM (M := fun k_ => (w.heap.size ≤ k_)) ho0 (below_size (below_extB HB.out)) (fun k_ h_ => h_)) (Kd.R_lt (Kd.R_ext HO_4002000.out))) (Kd.R_lt (Kd.R_ext HO_4002001.out))) (Kd.R_lt (Kd.R_ext HO4010.out))) (Kd.R_lt (Kd.R_ext HO4013.out))) (Kd.R_lt (Kd.R_ext HO4018.out))) (below_size (below_extB HB.out))); have n8_ := Aside0.mk (Kd.R_lower (Kd.R_new' (Kd.R_new' (Kd.R_new' (Kd.R_new' (Kd.R_new' (Kd.R_newM (M := fun k_ => (w.heap.size ≤ k_)) ho1 (below_size (below_extB HB.out)) (fun k_ h_ => h_)) (Kd.R_lt (Kd.R_ext HO_4002000.out))) (Kd.R_lt (Kd.R_ext HO_4002001.out))) (Kd.R_lt (Kd.R_ext HO4010.out))) (Kd.R_lt (Kd.R_ext HO4013.out))) (Kd.R_lt (Kd.R_ext HO4018.out))) (below_size (below_extB HB.out))); have HO4022 := n7_; have HO4025 := n8_; replace HO_0 := tdV2 HO_0 hb (Kd.R_base ho0) (Kd.R_base ho1); replace HO_11 := tdV2 HO_11 hb (Kd.R_base ho0) (Kd.R_base ho1); replace HO_4002000 := tdR2 HO_4002000 hb (Kd.R_base ho0) (Kd.R_base ho1); replace HO_4002001 := tdR2 HO_4002001 hb (Kd.R_base ho0) (Kd.R_base ho1); replace HO4010 := tdR2 HO4010 hb (Kd.R_base ho0) (Kd.R_base ho1); replace HO4013 := tdR2 HO4013 hb (Kd.R_base ho0) (Kd.R_base ho1); replace HO4018 := tdR2 HO4018 hb (Kd.R_base ho0) (Kd.R_base ho1); replace BK4001 := mvB BK4001 hb; replace BK4015 := mvB BK4015 hb; replace HB := mvH HB hb; clear n7_ n8_; (try clear hb); (try clear hb2); (try clear hk); (try clear hi); (try clear ho0); (try clear ho1); obtain ⟨Ao36, co36, eo36⟩ := Kd.R_slice HO4022.out; subst eo36; have hcz37_0 : w35.cell? ⟨gb4001, 0, none⟩ = some (.slice Ao28 t4008.length co28) := (blk_cell BK4001.out 0).trans rfl; have hcz37_1 : w35.cell? ⟨gb4001, 1, none⟩ = some (.slice Ao31 t4011.length co31) := (blk_cell BK4001.out 1).trans rfl; have hfz37_0 := blk_frozen BK4001.out 0; have hfz37_1 := blk_frozen BK4001.out 1; obtain ⟨Ao38, co38, eo38⟩ := Kd.R_slice HO4025.out; subst eo38; obtain ⟨Ao39, co39, eo39⟩ := Kd.R_slice HO4018.out; subst eo39))
                    go_roundg kj9
                    case measure => have := HK1.out; have := HJ4.out; have := HJ9.out; omega
                    case rel => exact ⟨(y4016), ((y4016.length : Int)), (wrap64 (x10_1 + 1)), (t4020), (t4023), (.slice Ao36 t4020.length co36), (.slice Ao38 t4023.length co38), (by first | rfl | (simp; done) | (simp [*]; done)), (by first | rfl | (simp; done) | (simp [*]; done)), H', ⟨by have := HK1.out; have := HJ4.out; have := HJ9.out; omega⟩, ⟨Kd.V_ext (Kd.V_mono (Kd.V_far (p := ⟨gb4001, 1, none⟩) (Kd.V_far (p := ⟨gb4001, 0, none⟩) (Kd.V_mono HO_0.out (fun k_ hk => (⟨hk, hk.1.1.1.2.2.2.2.2.1⟩ : _ ∧ k_ ≠ gb4001))) (fun _ hk => hk.2) (.slice Ao36 t4020.length co36)) (fun _ hk => hk.2) (.slice Ao38 t4023.length co38)) (fun _ hk => ⟨hk.1.1.1.1.1, ⟨hk.1.1.1.2, ⟨hk.1.1.2, ⟨hk.1.2, hk.1.1.1.1.2.2.2.2.2.1⟩⟩⟩⟩))⟩, ⟨Kd.R_ext (Kd.R_mono (Kd.R_far (p := ⟨gb4001, 1, none⟩) (Kd.R_far (p := ⟨gb4001, 0, none⟩) (Kd.R_types HO4018.out BK4001.out (by decide)) (fun _ hk => hk.2) (.slice Ao36 t4020.length co36)) (fun _ hk => hk.2) (.slice Ao38 t4023.length co38)) (fun _ hk => ⟨hk.1.1.1.1, ⟨hk.1.1.2, hk.1.2⟩⟩))⟩, ⟨Kd.R_ext (Kd.R_mono (Kd.R_far (p := ⟨gb4001, 1, none⟩) (Kd.R_far (p := ⟨gb4001, 0, none⟩) (Kd.R_types HO4022.out BK4001.out (by decide)) (fun _ hk => hk.2) (.slice Ao36 t4020.length co36)) (fun _ hk => hk.2) (.slice Ao38 t4023.length co38)) (fun _ hk => ⟨hk.1.1.1.1.1.1.1, ⟨hk.1.2, hk.1.1.1.1.1.1.2⟩⟩))⟩, ⟨Kd.R_ext (Kd.R_mono (Kd.R_far (p := ⟨gb4001, 1, none⟩) (Kd.R_far (p := ⟨gb4001, 0, none⟩) (Kd.R_types HO4025.out BK4001.out (by decide)) (fun _ hk => hk.2) (.slice Ao36 t4020.length co36)) (fun _ hk => hk.2) (.slice Ao38 t4023.length co38)) (fun _ hk => ⟨hk.1.1.1.1.1.1.1, ⟨hk.1.2, hk.1.1.1.1.1.1.2⟩⟩))⟩, ⟨by (with_reducible repeat (first | refine blk_drewN ?_ _ | refine blk_drew ?_ | refine blk_alloc ?_ _)); refine blk_put (cs := #[.slice Ao36 t4020.length co36, .slice Ao31 t4011.length co31]) ?_ 1 _ rfl; (with_reducible repeat (first | refine blk_drewN ?_ _ | refine blk_drew ?_ | refine blk_alloc ?_ _)); refine blk_put (cs := #[.slice Ao28 t4008.length co28, .slice Ao31 t4011.length co31]) ?_ 0 _ rfl; exact blk_ext BK4001.out⟩, ⟨below_extB HB.out⟩⟩
                  · replace c20 := Bool.eq_false_iff.mpr c20
                    subst c20
                    have H1 : (customslaw33_DiskPrefix.l0 kj9 l0 l1 a2 y4016 x9_1 (wrap64 (x10_1 + 1)) t4008 t4011) = some r := by rw [if_neg (show ¬ (false = true) by decide)] at H; exact H
                    clear H
                    have H := H1
                    clear H1
                    have H' := Aside0.mk H
                    clear H
                    have hcz40_0 : wc.cell? ⟨gb4001, 0, none⟩ = some (u4002000) := (blk_cell BK4001.out 0).trans rfl
                    have hcz40_1 : wc.cell? ⟨gb4001, 1, none⟩ = some (u4002001) := (blk_cell BK4001.out 1).trans rfl
                    have hfz40_0 := blk_frozen BK4001.out 0
                    have hfz40_1 := blk_frozen BK4001.out 1
                    obtain ⟨Ao41, co41, eo41⟩ := Kd.R_slice HO_4002000.out
                    subst eo41
                    obtain ⟨Ao42, co42, eo42⟩ := Kd.R_slice HO_4002001.out
                    subst eo42
                    obtain ⟨Ao43, co43, eo43⟩ := Kd.V_slice HO_11.out
                    subst eo43
                    go_wp2_with (first | ((with_reducible refine gate_callee (f := 16) rfl ?_); refine goesL_ (some 37) rfl rfl Try.func16 (by kernel_rfl) rfl #[.agg #[.slice Ao41 x4002000_1.length co41, .slice Ao42 x4002001_1.length co42], .slice Ao43 x11_9.length co43] rfl (by (try simp only [List.map_toArray, List.map_cons, List.map_nil]); first | done | rfl | (simp only [List.length_drop, List.length_take]; rfl)) ?_; (with_reducible refine (disk_Write.calls _ _ x4002000_1 _ _ x4002001_1 _ _ x11_9 t4008 t4011 t4014 _ ?side1 ?side2 ?side3 ?side4 ?side5 ?side6 A14.out).mono ?_); (case side1 => exact Kd.C_ext (Kd.R_reads' HO_4002000.out).2.2); (case side2 => exact (Kd.R_reads' HO_4002000.out).2.1); (case side3 => exact Kd.C_ext (Kd.R_reads' HO_4002001.out).2.2); (case side4 => exact (Kd.R_reads' HO_4002001.out).2.1); (case side5 => exact Kd.C_ext (Kd.V_reads' HO_11.out).2.2); (case side6 => exact (Kd.V_reads' HO_11.out).2.1); rintro e w44 ⟨v4009, v4012, rfl, ho0, ho1, hb⟩; refine ⟨_, rfl, ?_⟩; have n5_ := Aside0.mk (Kd.R_lower (Kd.R_new' (Kd.R_new' (Kd.R_new' (Kd.R_newM (M := fun k_ => (w.heap.size ≤ k_)) ho0 (below_size (below_extB HB.out)) (fun k_ h_ => h_)) (Kd.R_lt (Kd.R_ext HO_8.out))) (Kd.R_lt (Kd.R_ext HO_4002000.out))) (Kd.R_lt (Kd.R_ext HO_4002001.out))) (below_size (below_extB HB.out))); have n6_ := Aside0.mk (Kd.R_lower (Kd.R_new' (Kd.R_new' (Kd.R_new' (Kd.R_newM (M := fun k_ => (w.heap.size ≤ k_)) ho1 (below_size (below_extB HB.out)) (fun k_ h_ => h_)) (Kd.R_lt (Kd.R_ext HO_8.out))) (Kd.R_lt (Kd.R_ext HO_4002000.out))) (Kd.R_lt (Kd.R_ext HO_4002001.out))) (below_size (below_extB HB.out))); have HO4010 := n5_; have HO4013 := n6_; replace HO_0 := tdV2 HO_0 hb (Kd.R_base ho0) (Kd.R_base ho1); replace HO_8 := tdR2 HO_8 hb (Kd.R_base ho0) (Kd.R_base ho1); replace HO_11 := tdV2 HO_11 hb (Kd.R_base ho0) (Kd.R_base ho1); replace HO_4002000 := tdR2 HO_4002000 hb (Kd.R_base ho0) (Kd.R_base ho1); replace HO_4002001 := tdR2 HO_4002001 hb (Kd.R_base ho0) (Kd.R_base ho1); replace BK4001 := mvB BK4001 hb; replace HR4002_0 := mvC HR4002_0 hb; replace HB := mvH HB hb; clear n5_ n6_; (try clear hb); (try clear hb2); (try clear hk); (try clear hi); (try clear ho0); (try clear ho1)) | ((with_reducible refine gate_dst (N := 12) rfl ?_); (try (refine gate_guard (by rfl) ?_; dsimp only)); refine box_event ?hg (N := 12) ?hd (cs := #[.slice none 0 0, .slice none 0 0]) (t := 24) ?hr ?_; (case hd => rfl); (case hg => rfl); (case hr => first | (go_simp; done) | (go_simp; rfl)); intro gb4015 hg w45 hbox hb; have n10_ := Aside0.mk (hbox); have n11_ := Aside0.mk ((by rw [hg]; exact (below_size (below_extB HB.out)) : w.heap.size ≤ gb4015)); have n12_ := Aside0.mk ((by rw [hg]; exact (below_size (below_extB HB.out)) : w.heap.size ≤ gb4015)); have n13_ := Aside0.mk ((by rw [hg]; exact Nat.ne_of_lt (blk_lt (blk_ext BK4001.out)) : gb4001 ≠ gb4015)); have n14_ := Aside0.mk ((by rw [hg]; exact Nat.ne_of_gt (blk_lt (blk_ext BK4001.out)) : gb4015 ≠ gb4001)); have BK4015 := n10_; have GW4015 := n11_; have GE4015 := n12_; have GI4015 := GE_.mk GE4015.out; have NB4001_4015 := n13_; have NB4015_4001 := n14_; replace HO_0 := awV HO_0 hb gb4015 hg; replace HO_8 := mvR HO_8 hb; replace HO_11 := awV HO_11 hb gb4015 hg; replace HO_4002000 := mvR HO_4002000 hb; replace HO_4002001 := mvR HO_4002001 hb; replace HO4010 := mvR HO4010 hb; replace HO4013 := mvR HO4013 hb; replace BK4001 := mvB BK4001 hb; replace HR4002_0 := mvC HR4002_0 hb; replace HB := mvH HB hb; clear n10_ n11_ n12_ n13_ n14_; clear hb hbox hg; obtain ⟨Ao46, co46, eo46⟩ := Kd.R_slice HO4010.out; subst eo46; have hnb47 := NB4015_4001.out; have hnc47 := NB4001_4015.out; have hcz48_0 : w45.cell? ⟨gb4015, 0, none⟩ = some (.slice none 0 0) := (blk_cell BK4015.out 0).trans rfl; have hcz48_1 : w45.cell? ⟨gb4015, 1, none⟩ = some (.slice none 0 0) := (blk_cell BK4015.out 1).trans rfl; have hfz48_0 := blk_frozen BK4015.out 0; have hfz48_1 := blk_frozen BK4015.out 1; obtain ⟨Ao49, co49, eo49⟩ := Kd.R_slice HO4013.out; subst eo49; have hcz50_0 : w45.cell? ⟨gb4001, 0, none⟩ = some (.slice Ao41 x4002000_1.length co41) := (blk_cell BK4001.out 0).trans rfl; have hcz50_1 : w45.cell? ⟨gb4001, 1, none⟩ = some (.slice Ao42 x4002001_1.length co42) := (blk_cell BK4001.out 1).trans rfl; have hfz50_0 := blk_frozen BK4001.out 0; have hfz50_1 := blk_frozen BK4001.out 1) | ((with_reducible refine gate_builtin (b := .append) (xs := #[.tmp 43, .tmp 44]) rfl ?_); (try (refine gate_guard (by rfl) ?_; dsimp only)); at_builtin; refine Kd.R_append_rows (Kd.int .u8) (w0 := w) w.heap.size rfl (.tmp 43) (.tmp 44) 22 5 (.int .u8 0) 1 rfl Try.underlying22 info5 rfl (by decide) (by omega) u8 x8_1 x11_9 _ _ _ (fun k_ => (w.heap.size ≤ k_) ∧ some k_ ≠ (.slice Ao41 x4002000_1.length co41 : Value).ownBlock ∧ some k_ ≠ (.slice Ao42 x4002001_1.length co42 : Value).ownBlock ∧ some k_ ≠ (.slice Ao46 t4008.length co46 : Value).ownBlock ∧ some k_ ≠ (.slice Ao49 t4011.length co49 : Value).ownBlock) (fun _ => False) rfl rfl ?aO ?aR (fun _ _ h => h) (fun _ h => h.elim) ?aF ?aB ?aS ?aL ?_; (case aR => refine (Kd.V_reads' (e := 5) (base := w.heap.size) (ok := fun k_ => ((((((P0_ k_ ∨ w.heap.size ≤ k_)) ∧ (some k_ ≠ (u8 : Value).ownBlock ∧ (some k_ ≠ (.slice Ao41 x4002000_1.length co41 : Value).ownBlock ∧ (some k_ ≠ (.slice Ao42 x4002001_1.length co42 : Value).ownBlock ∧ k_ ≠ gb4001)))) ∧ some k_ ≠ (.slice Ao46 t4008.length co46 : Value).ownBlock) ∧ some k_ ≠ (.slice Ao49 t4011.length co49 : Value).ownBlock) ∧ k_ ≠ gb4015)) (n := x11_9.length) (c := co43) ?_).2.2; exact (Kd.V_ext ((Kd.V_mono (Kd.V_mono (Kd.V_far (p := ⟨gb4001, 1, none⟩) (Kd.V_far (p := ⟨gb4001, 0, none⟩) (Kd.V_far (p := ⟨gb4015, 1, none⟩) (Kd.V_far (p := ⟨gb4015, 0, none⟩) (Kd.V_mono (Kd.V_mono HO_11.out (fun k_ hk => (⟨hk, hk.2⟩ : _ ∧ k_ ≠ gb4015))) (fun k_ hk => (⟨hk, hk.1.1.1.1.2.2.2.2⟩ : _ ∧ k_ ≠ gb4001))) (fun _ hk => hk.1.2) (.slice Ao46 t4008.length co46)) (fun _ hk => hk.1.2) (.slice Ao49 t4011.length co49)) (fun _ hk => hk.2) (.slice Ao46 t4008.length co46)) (fun _ hk => hk.2) (.slice Ao49 t4011.length co49)) (fun _ h_ => h_.1)) (fun _ h_ => h_.1))))); (case aB => exact (below_extB HB.out)); (case aF => exact (fun k_ hk => ⟨(Nat.le_trans (below_size (below_extB HB.out)) hk), Kd.fresh' (Kd.R_lt (Kd.R_ext ((Kd.R_mono (Kd.R_mono (Kd.R_far (p := ⟨gb4001, 1, none⟩) (Kd.R_far (p := ⟨gb4001, 0, none⟩) (Kd.R_far (p := ⟨gb4015, 1, none⟩) (Kd.R_far (p := ⟨gb4015, 0, none⟩) (Kd.R_types (Kd.R_types HO_4002000.out BK4015.out (by decide)) BK4001.out (by decide)) (fun _ hk => hk.1.2) (.slice Ao46 t4008.length co46)) (fun _ hk => hk.1.2) (.slice Ao49 t4011.length co49)) (fun _ hk => hk.2) (.slice Ao46 t4008.length co46)) (fun _ hk => hk.2) (.slice Ao49 t4011.length co49)) (fun _ h_ => h_.1)) (fun _ h_ => h_.1))))) k_ hk, Kd.fresh' (Kd.R_lt (Kd.R_ext ((Kd.R_mono (Kd.R_mono (Kd.R_far (p := ⟨gb4001, 1, none⟩) (Kd.R_far (p := ⟨gb4001, 0, none⟩) (Kd.R_far (p := ⟨gb4015, 1, none⟩) (Kd.R_far (p := ⟨gb4015, 0, none⟩) (Kd.R_types (Kd.R_types HO_4002001.out BK4015.out (by decide)) BK4001.out (by decide)) (fun _ hk => hk.1.2) (.slice Ao46 t4008.length co46)) (fun _ hk => hk.1.2) (.slice Ao49 t4011.length co49)) (fun _ hk => hk.2) (.slice Ao46 t4008.length co46)) (fun _ hk => hk.2) (.slice Ao49 t4011.length co49)) (fun _ h_ => h_.1)) (fun _ h_ => h_.1))))) k_ hk, Kd.fresh' (Kd.R_lt (Kd.R_ext ((Kd.R_mono (Kd.R_mono (Kd.R_far (p := ⟨gb4001, 1, none⟩) (Kd.R_far (p := ⟨gb4001, 0, none⟩) (Kd.R_far (p := ⟨gb4015, 1, none⟩) (Kd.R_far (p := ⟨gb4015, 0, none⟩) (Kd.R_types (Kd.R_types HO4010.out BK4015.out (by decide)) BK4001.out (by decide)) (fun _ hk => hk.1.2) (.slice Ao46 t4008.length co46)) (fun _ hk => hk.1.2) (.slice Ao49 t4011.length co49)) (fun _ hk => hk.2) (.slice Ao46 t4008.length co46)) (fun _ hk => hk.2) (.slice Ao49 t4011.length co49)) (fun _ h_ => h_.1)) (fun _ h_ => h_.1))))) k_ hk, Kd.fresh' (Kd.R_lt (Kd.R_ext ((Kd.R_mono (Kd.R_mono (Kd.R_far (p := ⟨gb4001, 1, none⟩) (Kd.R_far (p := ⟨gb4001, 0, none⟩) (Kd.R_far (p := ⟨gb4015, 1, none⟩) (Kd.R_far (p := ⟨gb4015, 0, none⟩) (Kd.R_types (Kd.R_types HO4013.out BK4015.out (by decide)) BK4001.out (by decide)) (fun _ hk => hk.1.2) (.slice Ao46 t4008.length co46)) (fun _ hk => hk.1.2) (.slice Ao49 t4011.length co49)) (fun _ hk => hk.2) (.slice Ao46 t4008.length co46)) (fun _ hk => hk.2) (.slice Ao49 t4011.length co49)) (fun _ h_ => h_.1)) (fun _ h_ => h_.1))))) k_ hk⟩)); (case aO => exact (Kd.R_ext (Kd.R_mono (Kd.R_far (p := ⟨gb4001, 1, none⟩) (Kd.R_far (p := ⟨gb4001, 0, none⟩) (Kd.R_far (p := ⟨gb4015, 1, none⟩) (Kd.R_far (p := ⟨gb4015, 0, none⟩) (Kd.R_types (Kd.R_types HO_8.out BK4015.out (by decide)) BK4001.out (by decide)) (fun _ hk => hk.1.2) (.slice Ao46 t4008.length co46)) (fun _ hk => hk.1.2) (.slice Ao49 t4011.length co49)) (fun _ hk => hk.2) (.slice Ao46 t4008.length co46)) (fun _ hk => hk.2) (.slice Ao49 t4011.length co49)) (fun _ hk => ⟨hk.1.1.1.1.1, ⟨hk.1.1.1.1.2.1, ⟨hk.1.1.1.1.2.2, ⟨hk.1.1.1.2, hk.1.1.2⟩⟩⟩⟩)))); (case aS => exact (below_size (below_extB HB.out))); (case aL => have := LMc16.out; omega); intro v4017 w51 ho hb hg hat; rw [← Ny4016.out] at ho; have n0_ := Aside0.mk (Kd.V_afterv (ok := (fun k_ => (P0_ k_ ∨ w.heap.size ≤ k_) ∧ some k_ ≠ (.slice Ao41 x4002000_1.length co41 : Value).ownBlock ∧ some k_ ≠ (.slice Ao42 x4002001_1.length co42 : Value).ownBlock ∧ some k_ ≠ (.slice Ao46 t4008.length co46 : Value).ownBlock ∧ some k_ ≠ (.slice Ao49 t4011.length co49 : Value).ownBlock ∧ k_ ≠ gb4001 ∧ k_ ≠ gb4015)) (Kd.V_ext (Kd.V_mono (Kd.V_far (p := ⟨gb4001, 1, none⟩) (Kd.V_far (p := ⟨gb4001, 0, none⟩) (Kd.V_far (p := ⟨gb4015, 1, none⟩) (Kd.V_far (p := ⟨gb4015, 0, none⟩) (Kd.V_mono (Kd.V_mono HO_0.out (fun k_ hk => (⟨hk, hk.2⟩ : _ ∧ k_ ≠ gb4015))) (fun k_ hk => (⟨hk, hk.1.1.1.1.2.2.2.2⟩ : _ ∧ k_ ≠ gb4001))) (fun _ hk => hk.1.2) (.slice Ao46 t4008.length co46)) (fun _ hk => hk.1.2) (.slice Ao49 t4011.length co49)) (fun _ hk => hk.2) (.slice Ao46 t4008.length co46)) (fun _ hk => hk.2) (.slice Ao49 t4011.length co49)) (fun _ hk => ⟨⟨hk.1.1.1.1.1.1, ⟨hk.1.1.1.1.1.2.2.1, ⟨hk.1.1.1.1.1.2.2.2.1, ⟨hk.1.1.1.1.2, ⟨hk.1.1.1.2, ⟨hk.1.1.1.1.1.2.2.2.2, hk.1.1.2⟩⟩⟩⟩⟩⟩, hk.1.1.1.1.1.2.1⟩))) hg hat); have n1_ := Aside0.mk (Kd.V_afterv (ok := (fun k_ => (P0_ k_ ∨ w.heap.size ≤ k_) ∧ some k_ ≠ (.slice Ao41 x4002000_1.length co41 : Value).ownBlock ∧ some k_ ≠ (.slice Ao42 x4002001_1.length co42 : Value).ownBlock ∧ some k_ ≠ (.slice Ao46 t4008.length co46 : Value).ownBlock ∧ some k_ ≠ (.slice Ao49 t4011.length co49 : Value).ownBlock ∧ k_ ≠ gb4001 ∧ k_ ≠ gb4015)) (Kd.V_ext (Kd.V_mono (Kd.V_far (p := ⟨gb4001, 1, none⟩) (Kd.V_far (p := ⟨gb4001, 0, none⟩) (Kd.V_far (p := ⟨gb4015, 1, none⟩) (Kd.V_far (p := ⟨gb4015, 0, none⟩) (Kd.V_mono (Kd.V_mono HO_11.out (fun k_ hk => (⟨hk, hk.2⟩ : _ ∧ k_ ≠ gb4015))) (fun k_ hk => (⟨hk, hk.1.1.1.1.2.2.2.2⟩ : _ ∧ k_ ≠ gb4001))) (fun _ hk => hk.1.2) (.slice Ao46 t4008.length co46)) (fun _ hk => hk.1.2) (.slice Ao49 t4011.length co49)) (fun _ hk => hk.2) (.slice Ao46 t4008.length co46)) (fun _ hk => hk.2) (.slice Ao49 t4011.length co49)) (fun _ hk => ⟨⟨hk.1.1.1.1.1.1, ⟨hk.1.1.1.1.1.2.2.1, ⟨hk.1.1.1.1.1.2.2.2.1, ⟨hk.1.1.1.1.2, ⟨hk.1.1.1.2, ⟨hk.1.1.1.1.1.2.2.2.2, hk.1.1.2⟩⟩⟩⟩⟩⟩, hk.1.1.1.1.1.2.1⟩))) hg hat); have n2_ := Aside0.mk (Kd.R_after (ok := (fun k_ => (w.heap.size ≤ k_) ∧ some k_ ≠ (.slice Ao42 x4002001_1.length co42 : Value).ownBlock ∧ some k_ ≠ (.slice Ao46 t4008.length co46 : Value).ownBlock ∧ some k_ ≠ (.slice Ao49 t4011.length co49 : Value).ownBlock)) (Kd.R_ext (Kd.R_mono (Kd.R_far (p := ⟨gb4001, 1, none⟩) (Kd.R_far (p := ⟨gb4001, 0, none⟩) (Kd.R_far (p := ⟨gb4015, 1, none⟩) (Kd.R_far (p := ⟨gb4015, 0, none⟩) (Kd.R_types (Kd.R_types HO_4002000.out BK4015.out (by decide)) BK4001.out (by decide)) (fun _ hk => hk.1.2) (.slice Ao46 t4008.length co46)) (fun _ hk => hk.1.2) (.slice Ao49 t4011.length co49)) (fun _ hk => hk.2) (.slice Ao46 t4008.length co46)) (fun _ hk => hk.2) (.slice Ao49 t4011.length co49)) (fun _ hk => ⟨⟨hk.1.1.1.1.1, ⟨hk.1.1.1.1.2.2, ⟨hk.1.1.1.2, hk.1.1.2⟩⟩⟩, hk.1.1.1.1.2.1⟩))) hg hat); have n3_ := Aside0.mk (Kd.R_after (ok := (fun k_ => (w.heap.size ≤ k_) ∧ some k_ ≠ (.slice Ao41 x4002000_1.length co41 : Value).ownBlock ∧ some k_ ≠ (.slice Ao46 t4008.length co46 : Value).ownBlock ∧ some k_ ≠ (.slice Ao49 t4011.length co49 : Value).ownBlock)) (Kd.R_ext (Kd.R_mono (Kd.R_far (p := ⟨gb4001, 1, none⟩) (Kd.R_far (p := ⟨gb4001, 0, none⟩) (Kd.R_far (p := ⟨gb4015, 1, none⟩) (Kd.R_far (p := ⟨gb4015, 0, none⟩) (Kd.R_types (Kd.R_types HO_4002001.out BK4015.out (by decide)) BK4001.out (by decide)) (fun _ hk => hk.1.2) (.slice Ao46 t4008.length co46)) (fun _ hk => hk.1.2) (.slice Ao49 t4011.length co49)) (fun _ hk => hk.2) (.slice Ao46 t4008.length co46)) (fun _ hk => hk.2) (.slice Ao49 t4011.length co49)) (fun _ hk => ⟨⟨hk.1.1.1.1.1, ⟨hk.1.1.1.1.2.2, ⟨hk.1.1.1.2, hk.1.1.2⟩⟩⟩, hk.1.1.1.1.2.1⟩))) hg hat); have n4_ := Aside0.mk (blk_grown (g := gb4001) (o := .cells #[.slice Ao46 t4008.length co46, .slice Ao49 t4011.length co49] 24 (0, 0)) (by (with_reducible repeat (first | refine blk_drewN ?_ _ | refine blk_drew ?_ | refine blk_alloc ?_ _)); refine blk_put (cs := #[.slice Ao46 t4008.length co46, .slice Ao42 x4002001_1.length co42]) ?_ 1 _ rfl; (with_reducible repeat (first | refine blk_drewN ?_ _ | refine blk_drew ?_ | refine blk_alloc ?_ _)); refine blk_put (cs := #[.slice Ao41 x4002000_1.length co41, .slice Ao42 x4002001_1.length co42]) ?_ 0 _ rfl; (with_reducible repeat (first | refine blk_drewN ?_ _ | refine blk_drew ?_ | refine blk_alloc ?_ _)); refine blk_far ?_ NB4001_4015.out _; (with_reducible repeat (first | refine blk_drewN ?_ _ | refine blk_drew ?_ | refine blk_alloc ?_ _)); refine blk_far ?_ NB4001_4015.out _; exact blk_ext BK4001.out) hg (Kd.R_ne HO_8.out BK4001.out (by decide))); have n5_ := Aside0.mk (Kd.R_after (ok := (fun k_ => (w.heap.size ≤ k_) ∧ some k_ ≠ (.slice Ao41 x4002000_1.length co41 : Value).ownBlock ∧ some k_ ≠ (.slice Ao42 x4002001_1.length co42 : Value).ownBlock ∧ some k_ ≠ (.slice Ao49 t4011.length co49 : Value).ownBlock)) (Kd.R_ext (Kd.R_mono (Kd.R_far (p := ⟨gb4001, 1, none⟩) (Kd.R_far (p := ⟨gb4001, 0, none⟩) (Kd.R_far (p := ⟨gb4015, 1, none⟩) (Kd.R_far (p := ⟨gb4015, 0, none⟩) (Kd.R_types (Kd.R_types HO4010.out BK4015.out (by decide)) BK4001.out (by decide)) (fun _ hk => hk.1.2) (.slice Ao46 t4008.length co46)) (fun _ hk => hk.1.2) (.slice Ao49 t4011.length co49)) (fun _ hk => hk.2) (.slice Ao46 t4008.length co46)) (fun _ hk => hk.2) (.slice Ao49 t4011.length co49)) (fun _ hk => ⟨⟨hk.1.1.1.1.1.1, ⟨hk.1.1.1.2, ⟨hk.1.1.2, hk.1.1.1.1.1.2⟩⟩⟩, hk.1.1.1.1.2⟩))) hg hat); have n6_ := Aside0.mk (Kd.R_after (ok := (fun k_ => (w.heap.size ≤ k_) ∧ some k_ ≠ (.slice Ao41 x4002000_1.length co41 : Value).ownBlock ∧ some k_ ≠ (.slice Ao42 x4002001_1.length co42 : Value).ownBlock ∧ some k_ ≠ (.slice Ao46 t4008.length co46 : Value).ownBlock)) (Kd.R_ext (Kd.R_mono (Kd.R_far (p := ⟨gb4001, 1, none⟩) (Kd.R_far (p := ⟨gb4001, 0, none⟩) (Kd.R_far (p := ⟨gb4015, 1, none⟩) (Kd.R_far (p := ⟨gb4015, 0, none⟩) (Kd.R_types (Kd.R_types HO4013.out BK4015.out (by decide)) BK4001.out (by decide)) (fun _ hk => hk.1.2) (.slice Ao46 t4008.length co46)) (fun _ hk => hk.1.2) (.slice Ao49 t4011.length co49)) (fun _ hk => hk.2) (.slice Ao46 t4008.length co46)) (fun _ hk => hk.2) (.slice Ao49 t4011.length co49)) (fun _ hk => ⟨⟨hk.1.1.1.1.1.1, ⟨hk.1.1.1.2, ⟨hk.1.1.2, hk.1.1.1.1.1.2⟩⟩⟩, hk.1.1.1.1.2⟩))) hg hat); have n7_ := Aside0.mk (blk_grown (g := gb4015) (o := .cells #[.slice Ao46 t4008.length co46, .slice Ao49 t4011.length co49] 24 (0, 0)) (by (with_reducible repeat (first | refine blk_drewN ?_ _ | refine blk_drew ?_ | refine blk_alloc ?_ _)); refine blk_far ?_ NB4015_4001.out _; (with_reducible repeat (first | refine blk_drewN ?_ _ | refine blk_drew ?_ | refine blk_alloc ?_ _)); refine blk_far ?_ NB4015_4001.out _; (with_reducible repeat (first | refine blk_drewN ?_ _ | refine blk_drew ?_ | refine blk_alloc ?_ _)); refine blk_put (cs := #[.slice Ao46 t4008.length co46, .slice none 0 0]) ?_ 1 _ rfl; (with_reducible repeat (first | refine blk_drewN ?_ _ | refine blk_drew ?_ | refine blk_alloc ?_ _)); refine blk_put (cs := #[.slice none 0 0, .slice none 0 0]) ?_ 0 _ rfl; exact blk_ext BK4015.out) hg (Kd.R_ne HO_8.out BK4015.out (by decide))); have n8_ := Aside0.mk (hb); have n9_ := Aside0.mk (ho); clear HO_0; clear HO_11; clear HO_4002000; clear HO_4002001; clear BK4001; clear HO4010; clear HO4013; clear BK4015; clear HB; clear HO_8; have HO_0 := n0_; have HO_11 := n1_; have HO_4002000 := n2_; have HO_4002001 := n3_; have BK4001 := n4_; have HO4010 := n5_; have HO4013 := n6_; have BK4015 := n7_; have HB := n8_; have HO4018 := n9_; clear n0_ n1_ n2_ n3_ n4_ n5_ n6_ n7_ n8_ n9_; clear ho hb hg hat; have p4019 : 0 ≤ (x10_1 : Int) := of_decide_eq_true (by first | (with_reducible assumption) | assumption); have q4019 : x10_1 < (l1.length : Int) := of_decide_eq_true (by first | (with_reducible assumption) | assumption); obtain ⟨ad4019, e4019, hx4019_0⟩ := Kd.at_bool HR1.out x10_1 p4019 q4019; (try rw [← Nbq19.out] at hx4019_0); cases e4019; replace hx4019_0 := (HB.out.cell (World.block_lt_of_cell? w _ hx4019_0)).trans hx4019_0; replace p4019 := eq_true p4019; replace q4019 := eq_true q4019))
                    go_roundg kj9
                    case measure => have := HK1.out; have := HJ4.out; have := HJ9.out; omega
                    case rel => exact ⟨(y4016), (x9_1), (wrap64 (x10_1 + 1)), (t4008), (t4011), (.slice Ao46 t4008.length co46), (.slice Ao49 t4011.length co49), (by first | rfl | (simp; done) | (simp [*]; done)), (by first | rfl | (simp; done) | (simp [*]; done)), H', ⟨by have := HK1.out; have := HJ4.out; have := HJ9.out; omega⟩, ⟨Kd.V_ext (Kd.V_mono HO_0.out (fun _ hk => ⟨hk.1.1, ⟨hk.2, ⟨hk.1.2.2.2.1, ⟨hk.1.2.2.2.2.1, hk.1.2.2.2.2.2.1⟩⟩⟩⟩))⟩, ⟨Kd.R_ext (Kd.R_mono HO4018.out (fun _ hk => ⟨hk.1, ⟨hk.2.2.2.1, hk.2.2.2.2⟩⟩))⟩, ⟨Kd.R_ext (Kd.R_mono HO4010.out (fun _ hk => ⟨hk.1.1, ⟨hk.2, hk.1.2.2.2⟩⟩))⟩, ⟨Kd.R_ext (Kd.R_mono HO4013.out (fun _ hk => ⟨hk.1.1, ⟨hk.2, hk.1.2.2.2⟩⟩))⟩, ⟨blk_ext BK4001.out⟩, ⟨below_extB HB.out⟩⟩
                · rw [if_neg c17] at H
                  have c17b0 : decide (x10_1 < (l1.length : Int)) = false := decide_eq_false c17
                  clear c17
                  have H' := Aside0.mk H
                  clear H
                  have hcz52_0 : wc.cell? ⟨gb4001, 0, none⟩ = some (u4002000) := (blk_cell BK4001.out 0).trans rfl
                  have hcz52_1 : wc.cell? ⟨gb4001, 1, none⟩ = some (u4002001) := (blk_cell BK4001.out 1).trans rfl
                  have hfz52_0 := blk_frozen BK4001.out 0
                  have hfz52_1 := blk_frozen BK4001.out 1
                  obtain ⟨Ao53, co53, eo53⟩ := Kd.R_slice HO_4002000.out
                  subst eo53
                  obtain ⟨Ao54, co54, eo54⟩ := Kd.R_slice HO_4002001.out
                  subst eo54
                  obtain ⟨Ao55, co55, eo55⟩ := Kd.V_slice HO_11.out
                  subst eo55
                  go_wp2_with (first | ((with_reducible refine gate_callee (f := 16) rfl ?_); refine goesL_ (some 37) rfl rfl Try.func16 (by kernel_rfl) rfl #[.agg #[.slice Ao53 x4002000_1.length co53, .slice Ao54 x4002001_1.length co54], .slice Ao55 x11_9.length co55] rfl (by (try simp only [List.map_toArray, List.map_cons, List.map_nil]); first | done | rfl | (simp only [List.length_drop, List.length_take]; rfl)) ?_; (with_reducible refine (disk_Write.calls _ _ x4002000_1 _ _ x4002001_1 _ _ x11_9 t4008 t4011 t4014 _ ?side1 ?side2 ?side3 ?side4 ?side5 ?side6 A14.out).mono ?_); (case side1 => exact Kd.C_ext (Kd.R_reads' HO_4002000.out).2.2); (case side2 => exact (Kd.R_reads' HO_4002000.out).2.1); (case side3 => exact Kd.C_ext (Kd.R_reads' HO_4002001.out).2.2); (case side4 => exact (Kd.R_reads' HO_4002001.out).2.1); (case side5 => exact Kd.C_ext (Kd.V_reads' HO_11.out).2.2); (case side6 => exact (Kd.V_reads' HO_11.out).2.1); rintro e w56 ⟨v4009, v4012, rfl, ho0, ho1, hb⟩; refine ⟨_, rfl, ?_⟩; have n5_ := Aside0.mk (Kd.R_lower (Kd.R_new' (Kd.R_new' (Kd.R_new' (Kd.R_newM (M := fun k_ => (w.heap.size ≤ k_)) ho0 (below_size (below_extB HB.out)) (fun k_ h_ => h_)) (Kd.R_lt (Kd.R_ext HO_8.out))) (Kd.R_lt (Kd.R_ext HO_4002000.out))) (Kd.R_lt (Kd.R_ext HO_4002001.out))) (below_size (below_extB HB.out))); have n6_ := Aside0.mk (Kd.R_lower (Kd.R_new' (Kd.R_new' (Kd.R_new' (Kd.R_newM (M := fun k_ => (w.heap.size ≤ k_)) ho1 (below_size (below_extB HB.out)) (fun k_ h_ => h_)) (Kd.R_lt (Kd.R_ext HO_8.out))) (Kd.R_lt (Kd.R_ext HO_4002000.out))) (Kd.R_lt (Kd.R_ext HO_4002001.out))) (below_size (below_extB HB.out))); have HO4010 := n5_; have HO4013 := n6_; replace HO_0 := tdV2 HO_0 hb (Kd.R_base ho0) (Kd.R_base ho1); replace HO_8 := tdR2 HO_8 hb (Kd.R_base ho0) (Kd.R_base ho1); replace HO_11 := tdV2 HO_11 hb (Kd.R_base ho0) (Kd.R_base ho1); replace HO_4002000 := tdR2 HO_4002000 hb (Kd.R_base ho0) (Kd.R_base ho1); replace HO_4002001 := tdR2 HO_4002001 hb (Kd.R_base ho0) (Kd.R_base ho1); replace BK4001 := mvB BK4001 hb; replace HR4002_0 := mvC HR4002_0 hb; replace HB := mvH HB hb; clear n5_ n6_; (try clear hb); (try clear hb2); (try clear hk); (try clear hi); (try clear ho0); (try clear ho1)) | ((with_reducible refine gate_dst (N := 12) rfl ?_); (try (refine gate_guard (by rfl) ?_; dsimp only)); refine box_event ?hg (N := 12) ?hd (cs := #[.slice none 0 0, .slice none 0 0]) (t := 24) ?hr ?_; (case hd => rfl); (case hg => rfl); (case hr => first | (go_simp; done) | (go_simp; rfl)); intro gb4015 hg w57 hbox hb; have n10_ := Aside0.mk (hbox); have n11_ := Aside0.mk ((by rw [hg]; exact (below_size (below_extB HB.out)) : w.heap.size ≤ gb4015)); have n12_ := Aside0.mk ((by rw [hg]; exact (below_size (below_extB HB.out)) : w.heap.size ≤ gb4015)); have n13_ := Aside0.mk ((by rw [hg]; exact Nat.ne_of_lt (blk_lt (blk_ext BK4001.out)) : gb4001 ≠ gb4015)); have n14_ := Aside0.mk ((by rw [hg]; exact Nat.ne_of_gt (blk_lt (blk_ext BK4001.out)) : gb4015 ≠ gb4001)); have BK4015 := n10_; have GW4015 := n11_; have GE4015 := n12_; have GI4015 := GE_.mk GE4015.out; have NB4001_4015 := n13_; have NB4015_4001 := n14_; replace HO_0 := awV HO_0 hb gb4015 hg; replace HO_8 := mvR HO_8 hb; replace HO_11 := awV HO_11 hb gb4015 hg; replace HO_4002000 := mvR HO_4002000 hb; replace HO_4002001 := mvR HO_4002001 hb; replace HO4010 := mvR HO4010 hb; replace HO4013 := mvR HO4013 hb; replace BK4001 := mvB BK4001 hb; replace HR4002_0 := mvC HR4002_0 hb; replace HB := mvH HB hb; clear n10_ n11_ n12_ n13_ n14_; clear hb hbox hg; obtain ⟨Ao58, co58, eo58⟩ := Kd.R_slice HO4010.out; subst eo58; have hnb59 := NB4015_4001.out; have hnc59 := NB4001_4015.out; have hcz60_0 : w57.cell? ⟨gb4015, 0, none⟩ = some (.slice none 0 0) := (blk_cell BK4015.out 0).trans rfl; have hcz60_1 : w57.cell? ⟨gb4015, 1, none⟩ = some (.slice none 0 0) := (blk_cell BK4015.out 1).trans rfl; have hfz60_0 := blk_frozen BK4015.out 0; have hfz60_1 := blk_frozen BK4015.out 1; obtain ⟨Ao61, co61, eo61⟩ := Kd.R_slice HO4013.out; subst eo61; have hcz62_0 : w57.cell? ⟨gb4001, 0, none⟩ = some (.slice Ao53 x4002000_1.length co53) := (blk_cell BK4001.out 0).trans rfl; have hcz62_1 : w57.cell? ⟨gb4001, 1, none⟩ = some (.slice Ao54 x4002001_1.length co54) := (blk_cell BK4001.out 1).trans rfl; have hfz62_0 := blk_frozen BK4001.out 0; have hfz62_1 := blk_frozen BK4001.out 1) | ((with_reducible refine gate_builtin (b := .append) (xs := #[.tmp 43, .tmp 44]) rfl ?_); (try (refine gate_guard (by rfl) ?_; dsimp only)); at_builtin; refine Kd.R_append_rows (Kd.int .u8) (w0 := w) w.heap.size rfl (.tmp 43) (.tmp 44) 22 5 (.int .u8 0) 1 rfl Try.underlying22 info5 rfl (by decide) (by omega) u8 x8_1 x11_9 _ _ _ (fun k_ => (w.heap.size ≤ k_) ∧ some k_ ≠ (.slice Ao53 x4002000_1.length co53 : Value).ownBlock ∧ some k_ ≠ (.slice Ao54 x4002001_1.length co54 : Value).ownBlock ∧ some k_ ≠ (.slice Ao58 t4008.length co58 : Value).ownBlock ∧ some k_ ≠ (.slice Ao61 t4011.length co61 : Value).ownBlock) (fun _ => False) rfl rfl ?aO ?aR (fun _ _ h => h) (fun _ h => h.elim) ?aF ?aB ?aS ?aL ?_; (case aR => refine (Kd.V_reads' (e := 5) (base := w.heap.size) (ok := fun k_ => ((((((P0_ k_ ∨ w.heap.size ≤ k_)) ∧ (some k_ ≠ (u8 : Value).ownBlock ∧ (some k_ ≠ (.slice Ao53 x4002000_1.length co53 : Value).ownBlock ∧ (some k_ ≠ (.slice Ao54 x4002001_1.length co54 : Value).ownBlock ∧ k_ ≠ gb4001)))) ∧ some k_ ≠ (.slice Ao58 t4008.length co58 : Value).ownBlock) ∧ some k_ ≠ (.slice Ao61 t4011.length co61 : Value).ownBlock) ∧ k_ ≠ gb4015)) (n := x11_9.length) (c := co55) ?_).2.2; exact (Kd.V_ext ((Kd.V_mono (Kd.V_mono (Kd.V_far (p := ⟨gb4001, 1, none⟩) (Kd.V_far (p := ⟨gb4001, 0, none⟩) (Kd.V_far (p := ⟨gb4015, 1, none⟩) (Kd.V_far (p := ⟨gb4015, 0, none⟩) (Kd.V_mono (Kd.V_mono HO_11.out (fun k_ hk => (⟨hk, hk.2⟩ : _ ∧ k_ ≠ gb4015))) (fun k_ hk => (⟨hk, hk.1.1.1.1.2.2.2.2⟩ : _ ∧ k_ ≠ gb4001))) (fun _ hk => hk.1.2) (.slice Ao58 t4008.length co58)) (fun _ hk => hk.1.2) (.slice Ao61 t4011.length co61)) (fun _ hk => hk.2) (.slice Ao58 t4008.length co58)) (fun _ hk => hk.2) (.slice Ao61 t4011.length co61)) (fun _ h_ => h_.1)) (fun _ h_ => h_.1))))); (case aB => exact (below_extB HB.out)); (case aF => exact (fun k_ hk => ⟨(Nat.le_trans (below_size (below_extB HB.out)) hk), Kd.fresh' (Kd.R_lt (Kd.R_ext ((Kd.R_mono (Kd.R_mono (Kd.R_far (p := ⟨gb4001, 1, none⟩) (Kd.R_far (p := ⟨gb4001, 0, none⟩) (Kd.R_far (p := ⟨gb4015, 1, none⟩) (Kd.R_far (p := ⟨gb4015, 0, none⟩) (Kd.R_types (Kd.R_types HO_4002000.out BK4015.out (by decide)) BK4001.out (by decide)) (fun _ hk => hk.1.2) (.slice Ao58 t4008.length co58)) (fun _ hk => hk.1.2) (.slice Ao61 t4011.length co61)) (fun _ hk => hk.2) (.slice Ao58 t4008.length co58)) (fun _ hk => hk.2) (.slice Ao61 t4011.length co61)) (fun _ h_ => h_.1)) (fun _ h_ => h_.1))))) k_ hk, Kd.fresh' (Kd.R_lt (Kd.R_ext ((Kd.R_mono (Kd.R_mono (Kd.R_far (p := ⟨gb4001, 1, none⟩) (Kd.R_far (p := ⟨gb4001, 0, none⟩) (Kd.R_far (p := ⟨gb4015, 1, none⟩) (Kd.R_far (p := ⟨gb4015, 0, none⟩) (Kd.R_types (Kd.R_types HO_4002001.out BK4015.out (by decide)) BK4001.out (by decide)) (fun _ hk => hk.1.2) (.slice Ao58 t4008.length co58)) (fun _ hk => hk.1.2) (.slice Ao61 t4011.length co61)) (fun _ hk => hk.2) (.slice Ao58 t4008.length co58)) (fun _ hk => hk.2) (.slice Ao61 t4011.length co61)) (fun _ h_ => h_.1)) (fun _ h_ => h_.1))))) k_ hk, Kd.fresh' (Kd.R_lt (Kd.R_ext ((Kd.R_mono (Kd.R_mono (Kd.R_far (p := ⟨gb4001, 1, none⟩) (Kd.R_far (p := ⟨gb4001, 0, none⟩) (Kd.R_far (p := ⟨gb4015, 1, none⟩) (Kd.R_far (p := ⟨gb4015, 0, none⟩) (Kd.R_types (Kd.R_types HO4010.out BK4015.out (by decide)) BK4001.out (by decide)) (fun _ hk => hk.1.2) (.slice Ao58 t4008.length co58)) (fun _ hk => hk.1.2) (.slice Ao61 t4011.length co61)) (fun _ hk => hk.2) (.slice Ao58 t4008.length co58)) (fun _ hk => hk.2) (.slice Ao61 t4011.length co61)) (fun _ h_ => h_.1)) (fun _ h_ => h_.1))))) k_ hk, Kd.fresh' (Kd.R_lt (Kd.R_ext ((Kd.R_mono (Kd.R_mono (Kd.R_far (p := ⟨gb4001, 1, none⟩) (Kd.R_far (p := ⟨gb4001, 0, none⟩) (Kd.R_far (p := ⟨gb4015, 1, none⟩) (Kd.R_far (p := ⟨gb4015, 0, none⟩) (Kd.R_types (Kd.R_types HO4013.out BK4015.out (by decide)) BK4001.out (by decide)) (fun _ hk => hk.1.2) (.slice Ao58 t4008.length co58)) (fun _ hk => hk.1.2) (.slice Ao61 t4011.length co61)) (fun _ hk => hk.2) (.slice Ao58 t4008.length co58)) (fun _ hk => hk.2) (.slice Ao61 t4011.length co61)) (fun _ h_ => h_.1)) (fun _ h_ => h_.1))))) k_ hk⟩)); (case aO => exact (Kd.R_ext (Kd.R_mono (Kd.R_far (p := ⟨gb4001, 1, none⟩) (Kd.R_far (p := ⟨gb4001, 0, none⟩) (Kd.R_far (p := ⟨gb4015, 1, none⟩) (Kd.R_far (p := ⟨gb4015, 0, none⟩) (Kd.R_types (Kd.R_types HO_8.out BK4015.out (by decide)) BK4001.out (by decide)) (fun _ hk => hk.1.2) (.slice Ao58 t4008.length co58)) (fun _ hk => hk.1.2) (.slice Ao61 t4011.length co61)) (fun _ hk => hk.2) (.slice Ao58 t4008.length co58)) (fun _ hk => hk.2) (.slice Ao61 t4011.length co61)) (fun _ hk => ⟨hk.1.1.1.1.1, ⟨hk.1.1.1.1.2.1, ⟨hk.1.1.1.1.2.2, ⟨hk.1.1.1.2, hk.1.1.2⟩⟩⟩⟩)))); (case aS => exact (below_size (below_extB HB.out))); (case aL => have := LMc16.out; omega); intro v4017 w63 ho hb hg hat; rw [← Ny4016.out] at ho; have n0_ := Aside0.mk (Kd.V_afterv (ok := (fun k_ => (P0_ k_ ∨ w.heap.size ≤ k_) ∧ some k_ ≠ (.slice Ao53 x4002000_1.length co53 : Value).ownBlock ∧ some k_ ≠ (.slice Ao54 x4002001_1.length co54 : Value).ownBlock ∧ some k_ ≠ (.slice Ao58 t4008.length co58 : Value).ownBlock ∧ some k_ ≠ (.slice Ao61 t4011.length co61 : Value).ownBlock ∧ k_ ≠ gb4001 ∧ k_ ≠ gb4015)) (Kd.V_ext (Kd.V_mono (Kd.V_far (p := ⟨gb4001, 1, none⟩) (Kd.V_far (p := ⟨gb4001, 0, none⟩) (Kd.V_far (p := ⟨gb4015, 1, none⟩) (Kd.V_far (p := ⟨gb4015, 0, none⟩) (Kd.V_mono (Kd.V_mono HO_0.out (fun k_ hk => (⟨hk, hk.2⟩ : _ ∧ k_ ≠ gb4015))) (fun k_ hk => (⟨hk, hk.1.1.1.1.2.2.2.2⟩ : _ ∧ k_ ≠ gb4001))) (fun _ hk => hk.1.2) (.slice Ao58 t4008.length co58)) (fun _ hk => hk.1.2) (.slice Ao61 t4011.length co61)) (fun _ hk => hk.2) (.slice Ao58 t4008.length co58)) (fun _ hk => hk.2) (.slice Ao61 t4011.length co61)) (fun _ hk => ⟨⟨hk.1.1.1.1.1.1, ⟨hk.1.1.1.1.1.2.2.1, ⟨hk.1.1.1.1.1.2.2.2.1, ⟨hk.1.1.1.1.2, ⟨hk.1.1.1.2, ⟨hk.1.1.1.1.1.2.2.2.2, hk.1.1.2⟩⟩⟩⟩⟩⟩, hk.1.1.1.1.1.2.1⟩))) hg hat); have n1_ := Aside0.mk (Kd.V_afterv (ok := (fun k_ => (P0_ k_ ∨ w.heap.size ≤ k_) ∧ some k_ ≠ (.slice Ao53 x4002000_1.length co53 : Value).ownBlock ∧ some k_ ≠ (.slice Ao54 x4002001_1.length co54 : Value).ownBlock ∧ some k_ ≠ (.slice Ao58 t4008.length co58 : Value).ownBlock ∧ some k_ ≠ (.slice Ao61 t4011.length co61 : Value).ownBlock ∧ k_ ≠ gb4001 ∧ k_ ≠ gb4015)) (Kd.V_ext (Kd.V_mono (Kd.V_far (p := ⟨gb4001, 1, none⟩) (Kd.V_far (p := ⟨gb4001, 0, none⟩) (Kd.V_far (p := ⟨gb4015, 1, none⟩) (Kd.V_far (p := ⟨gb4015, 0, none⟩) (Kd.V_mono (Kd.V_mono HO_11.out (fun k_ hk => (⟨hk, hk.2⟩ : _ ∧ k_ ≠ gb4015))) (fun k_ hk => (⟨hk, hk.1.1.1.1.2.2.2.2⟩ : _ ∧ k_ ≠ gb4001))) (fun _ hk => hk.1.2) (.slice Ao58 t4008.length co58)) (fun _ hk => hk.1.2) (.slice Ao61 t4011.length co61)) (fun _ hk => hk.2) (.slice Ao58 t4008.length co58)) (fun _ hk => hk.2) (.slice Ao61 t4011.length co61)) (fun _ hk => ⟨⟨hk.1.1.1.1.1.1, ⟨hk.1.1.1.1.1.2.2.1, ⟨hk.1.1.1.1.1.2.2.2.1, ⟨hk.1.1.1.1.2, ⟨hk.1.1.1.2, ⟨hk.1.1.1.1.1.2.2.2.2, hk.1.1.2⟩⟩⟩⟩⟩⟩, hk.1.1.1.1.1.2.1⟩))) hg hat); have n2_ := Aside0.mk (Kd.R_after (ok := (fun k_ => (w.heap.size ≤ k_) ∧ some k_ ≠ (.slice Ao54 x4002001_1.length co54 : Value).ownBlock ∧ some k_ ≠ (.slice Ao58 t4008.length co58 : Value).ownBlock ∧ some k_ ≠ (.slice Ao61 t4011.length co61 : Value).ownBlock)) (Kd.R_ext (Kd.R_mono (Kd.R_far (p := ⟨gb4001, 1, none⟩) (Kd.R_far (p := ⟨gb4001, 0, none⟩) (Kd.R_far (p := ⟨gb4015, 1, none⟩) (Kd.R_far (p := ⟨gb4015, 0, none⟩) (Kd.R_types (Kd.R_types HO_4002000.out BK4015.out (by decide)) BK4001.out (by decide)) (fun _ hk => hk.1.2) (.slice Ao58 t4008.length co58)) (fun _ hk => hk.1.2) (.slice Ao61 t4011.length co61)) (fun _ hk => hk.2) (.slice Ao58 t4008.length co58)) (fun _ hk => hk.2) (.slice Ao61 t4011.length co61)) (fun _ hk => ⟨⟨hk.1.1.1.1.1, ⟨hk.1.1.1.1.2.2, ⟨hk.1.1.1.2, hk.1.1.2⟩⟩⟩, hk.1.1.1.1.2.1⟩))) hg hat); have n3_ := Aside0.mk (Kd.R_after (ok := (fun k_ => (w.heap.size ≤ k_) ∧ some k_ ≠ (.slice Ao53 x4002000_1.length co53 : Value).ownBlock ∧ some k_ ≠ (.slice Ao58 t4008.length co58 : Value).ownBlock ∧ some k_ ≠ (.slice Ao61 t4011.length co61 : Value).ownBlock)) (Kd.R_ext (Kd.R_mono (Kd.R_far (p := ⟨gb4001, 1, none⟩) (Kd.R_far (p := ⟨gb4001, 0, none⟩) (Kd.R_far (p := ⟨gb4015, 1, none⟩) (Kd.R_far (p := ⟨gb4015, 0, none⟩) (Kd.R_types (Kd.R_types HO_4002001.out BK4015.out (by decide)) BK4001.out (by decide)) (fun _ hk => hk.1.2) (.slice Ao58 t4008.length co58)) (fun _ hk => hk.1.2) (.slice Ao61 t4011.length co61)) (fun _ hk => hk.2) (.slice Ao58 t4008.length co58)) (fun _ hk => hk.2) (.slice Ao61 t4011.length co61)) (fun _ hk => ⟨⟨hk.1.1.1.1.1, ⟨hk.1.1.1.1.2.2, ⟨hk.1.1.1.2, hk.1.1.2⟩⟩⟩, hk.1.1.1.1.2.1⟩))) hg hat); have n4_ := Aside0.mk (blk_grown (g := gb4001) (o := .cells #[.slice Ao58 t4008.length co58, .slice Ao61 t4011.length co61] 24 (0, 0)) (by (with_reducible repeat (first | refine blk_drewN ?_ _ | refine blk_drew ?_ | refine blk_alloc ?_ _)); refine blk_put (cs := #[.slice Ao58 t4008.length co58, .slice Ao54 x4002001_1.length co54]) ?_ 1 _ rfl; (with_reducible repeat (first | refine blk_drewN ?_ _ | refine blk_drew ?_ | refine blk_alloc ?_ _)); refine blk_put (cs := #[.slice Ao53 x4002000_1.length co53, .slice Ao54 x4002001_1.length co54]) ?_ 0 _ rfl; (with_reducible repeat (first | refine blk_drewN ?_ _ | refine blk_drew ?_ | refine blk_alloc ?_ _)); refine blk_far ?_ NB4001_4015.out _; (with_reducible repeat (first | refine blk_drewN ?_ _ | refine blk_drew ?_ | refine blk_alloc ?_ _)); refine blk_far ?_ NB4001_4015.out _; exact blk_ext BK4001.out) hg (Kd.R_ne HO_8.out BK4001.out (by decide))); have n5_ := Aside0.mk (Kd.R_after (ok := (fun k_ => (w.heap.size ≤ k_) ∧ some k_ ≠ (.slice Ao53 x4002000_1.length co53 : Value).ownBlock ∧ some k_ ≠ (.slice Ao54 x4002001_1.length co54 : Value).ownBlock ∧ some k_ ≠ (.slice Ao61 t4011.length co61 : Value).ownBlock)) (Kd.R_ext (Kd.R_mono (Kd.R_far (p := ⟨gb4001, 1, none⟩) (Kd.R_far (p := ⟨gb4001, 0, none⟩) (Kd.R_far (p := ⟨gb4015, 1, none⟩) (Kd.R_far (p := ⟨gb4015, 0, none⟩) (Kd.R_types (Kd.R_types HO4010.out BK4015.out (by decide)) BK4001.out (by decide)) (fun _ hk => hk.1.2) (.slice Ao58 t4008.length co58)) (fun _ hk => hk.1.2) (.slice Ao61 t4011.length co61)) (fun _ hk => hk.2) (.slice Ao58 t4008.length co58)) (fun _ hk => hk.2) (.slice Ao61 t4011.length co61)) (fun _ hk => ⟨⟨hk.1.1.1.1.1.1, ⟨hk.1.1.1.2, ⟨hk.1.1.2, hk.1.1.1.1.1.2⟩⟩⟩, hk.1.1.1.1.2⟩))) hg hat); have n6_ := Aside0.mk (Kd.R_after (ok := (fun k_ => (w.heap.size ≤ k_) ∧ some k_ ≠ (.slice Ao53 x4002000_1.length co53 : Value).ownBlock ∧ some k_ ≠ (.slice Ao54 x4002001_1.length co54 : Value).ownBlock ∧ some k_ ≠ (.slice Ao58 t4008.length co58 : Value).ownBlock)) (Kd.R_ext (Kd.R_mono (Kd.R_far (p := ⟨gb4001, 1, none⟩) (Kd.R_far (p := ⟨gb4001, 0, none⟩) (Kd.R_far (p := ⟨gb4015, 1, none⟩) (Kd.R_far (p := ⟨gb4015, 0, none⟩) (Kd.R_types (Kd.R_types HO4013.out BK4015.out (by decide)) BK4001.out (by decide)) (fun _ hk => hk.1.2) (.slice Ao58 t4008.length co58)) (fun _ hk => hk.1.2) (.slice Ao61 t4011.length co61)) (fun _ hk => hk.2) (.slice Ao58 t4008.length co58)) (fun _ hk => hk.2) (.slice Ao61 t4011.length co61)) (fun _ hk => ⟨⟨hk.1.1.1.1.1.1, ⟨hk.1.1.1.2, ⟨hk.1.1.2, hk.1.1.1.1.1.2⟩⟩⟩, hk.1.1.1.1.2⟩))) hg hat); have n7_ := Aside0.mk (blk_grown (g := gb4015) (o := .cells #[.slice Ao58 t4008.length co58, .slice Ao61 t4011.length co61] 24 (0, 0)) (by (with_reducible repeat (first | refine blk_drewN ?_ _ | refine blk_drew ?_ | refine blk_alloc ?_ _)); refine blk_far ?_ NB4015_4001.out _; (with_reducible repeat (first | refine blk_drewN ?_ _ | refine blk_drew ?_ | refine blk_alloc ?_ _)); refine blk_far ?_ NB4015_4001.out _; (with_reducible repeat (first | refine blk_drewN ?_ _ | refine blk_drew ?_ | refine blk_alloc ?_ _)); refine blk_put (cs := #[.slice Ao58 t4008.length co58, .slice none 0 0]) ?_ 1 _ rfl; (with_reducible repeat (first | refine blk_drewN ?_ _ | refine blk_drew ?_ | refine blk_alloc ?_ _)); refine blk_put (cs := #[.slice none 0 0, .slice none 0 0]) ?_ 0 _ rfl; exact blk_ext BK4015.out) hg (Kd.R_ne HO_8.out BK4015.out (by decide))); have n8_ := Aside0.mk (hb); have n9_ := Aside0.mk (ho); clear HO_0; clear HO_11; clear HO_4002000; clear HO_4002001; clear BK4001; clear HO4010; clear HO4013; clear BK4015; clear HB; clear HO_8; have HO_0 := n0_; have HO_11 := n1_; have HO_4002000 := n2_; have HO_4002001 := n3_; have BK4001 := n4_; have HO4010 := n5_; have HO4013 := n6_; have BK4015 := n7_; have HB := n8_; have HO4018 := n9_; clear n0_ n1_ n2_ n3_ n4_ n5_ n6_ n7_ n8_ n9_; clear ho hb hg hat))
                  go_roundg kj9
                  case measure => have := HK1.out; have := HJ4.out; have := HJ9.out; omega
                  case rel => exact ⟨(y4016), (x9_1), (wrap64 (x10_1 + 1)), (t4008), (t4011), (.slice Ao58 t4008.length co58), (.slice Ao61 t4011.length co61), (by first | rfl | (simp; done) | (simp [*]; done)), (by first | rfl | (simp; done) | (simp [*]; done)), H', ⟨by have := HK1.out; have := HJ4.out; have := HJ9.out; omega⟩, ⟨Kd.V_ext (Kd.V_mono HO_0.out (fun _ hk => ⟨hk.1.1, ⟨hk.2, ⟨hk.1.2.2.2.1, ⟨hk.1.2.2.2.2.1, hk.1.2.2.2.2.2.1⟩⟩⟩⟩))⟩, ⟨Kd.R_ext (Kd.R_mono HO4018.out (fun _ hk => ⟨hk.1, ⟨hk.2.2.2.1, hk.2.2.2.2⟩⟩))⟩, ⟨Kd.R_ext (Kd.R_mono HO4010.out (fun _ hk => ⟨hk.1.1, ⟨hk.2, hk.1.2.2.2⟩⟩))⟩, ⟨Kd.R_ext (Kd.R_mono HO4013.out (fun _ hk => ⟨hk.1.1, ⟨hk.2, hk.1.2.2.2⟩⟩))⟩, ⟨blk_ext BK4001.out⟩, ⟨below_extB HB.out⟩⟩
          · replace c7 := Bool.eq_false_iff.mpr c7
            subst c7
            have H1 : ((disk_Crash.f x4002000_1 x4002001_1 a2).bind fun bt4026 => ((disk_Read.f bt4026.1 bt4026.2).bind fun t4032 => (if (t4032.length : Int) ≥ x9_1 then (if (t4032.length : Int) ≤ (x8_1.length : Int) then (if 0 ≤ (t4032.length : Int) then (if (strOfNums t4032).toList = (strOfNums (x8_1.take ((t4032.length : Int) : Int).toNat)).toList then ((disk_Read.f x4002000_1 x4002001_1).bind fun t4039 => (if (strOfNums t4039).toList = (strOfNums x8_1).toList then ((customslaw33_awake.f).bind fun t4042 => (some t4042)) else (none))) else (none)) else (none)) else (none)) else (none)))) = some r := by rw [if_neg (show ¬ (false = true) by decide)] at H; exact H
            clear H
            have H := H1
            clear H1
            replace H := Option.bind_eq_some_iff.mp H
            obtain ⟨⟨t4026, t4029⟩, A640, H⟩ := H
            try dsimp only at H
            have A64 := Aside0.mk A640
            clear A640
            replace H := Option.bind_eq_some_iff.mp H
            obtain ⟨t4032, A650, H⟩ := H
            try dsimp only at H
            have A65 := Aside0.mk A650
            clear A650
            by_cases c66 : (t4032.length : Int) ≥ x9_1
            · rw [if_pos c66] at H
              have c66b0 : decide (x9_1 ≤ (t4032.length : Int)) = true := decide_eq_true c66
              clear c66
              by_cases c67 : (t4032.length : Int) ≤ (x8_1.length : Int)
              · rw [if_pos c67] at H
                have c67b0 : decide ((t4032.length : Int) ≤ (x8_1.length : Int)) = true := decide_eq_true c67
                have c67b1 : decide (t4032.length ≤ x8_1.length) = true := decide_eq_true (Int.ofNat_le.mp c67)
                clear c67
                replace H := if_some H; obtain ⟨c68, H⟩ := H
                have c68b0 := eq_true c68
                have c68b1 : decide (0 ≤ (t4032.length : Int)) = true := decide_eq_true c68
                clear c68
                have c69b0 := eq_true (of_decide_eq_true (by first | (with_reducible assumption) | assumption) : (t4032.length : Int) ≤ (x8_1.length : Int))
                obtain ⟨y4035, hy4035⟩ : ∃ y_ : List Int, y_ = (x8_1.take ((t4032.length : Int) : Int).toNat) := ⟨_, rfl⟩
                replace H : (if (strOfNums t4032).toList = (strOfNums y4035).toList then ((disk_Read.f x4002000_1 x4002001_1).bind fun t4039 => (if (strOfNums t4039).toList = (strOfNums x8_1).toList then ((customslaw33_awake.f).bind fun t4042 => (some t4042)) else (none))) else (none)) = some r := by first | (rw [hy4035]; with_reducible exact H) | (have H2_ := (Option.bind_some _ _).symm.trans H; rw [hy4035]; with_reducible exact H2_) | (have H2_ := (Option.bind_some _ _).symm.trans H; with_reducible exact H2_) | with_reducible exact H | (rw [hy4035]; exact H) | exact H
                have Ny4035 := Aside0.mk hy4035
                clear hy4035
                by_cases c70 : (strOfNums t4032).toList = (strOfNums y4035).toList
                · rw [if_pos c70] at H
                  have c70b0 : ((strOfNums t4032).toList == (strOfNums y4035).toList) = true := beq_iff_eq.mpr c70
                  have c70b1 : ((strOfNums t4032).toList != (strOfNums y4035).toList) = false := bne_eq_false_iff_eq.mpr c70
                  clear c70
                  replace H := Option.bind_eq_some_iff.mp H
                  obtain ⟨t4039, A710, H⟩ := H
                  try dsimp only at H
                  have A71 := Aside0.mk A710
                  clear A710
                  by_cases c72 : (strOfNums t4039).toList = (strOfNums x8_1).toList
                  · rw [if_pos c72] at H
                    have c72b0 : ((strOfNums t4039).toList == (strOfNums x8_1).toList) = true := beq_iff_eq.mpr c72
                    have c72b1 : ((strOfNums t4039).toList != (strOfNums x8_1).toList) = false := bne_eq_false_iff_eq.mpr c72
                    clear c72
                    replace H := Option.bind_eq_some_iff.mp H
                    obtain ⟨t4042, A730, H⟩ := H
                    try dsimp only at H
                    have A73 := Aside0.mk A730
                    clear A730
                    obtain rfl := Option.some.inj H
                    have hcz74_0 : wc.cell? ⟨gb4001, 0, none⟩ = some (u4002000) := (blk_cell BK4001.out 0).trans rfl
                    have hcz74_1 : wc.cell? ⟨gb4001, 1, none⟩ = some (u4002001) := (blk_cell BK4001.out 1).trans rfl
                    have hfz74_0 := blk_frozen BK4001.out 0
                    have hfz74_1 := blk_frozen BK4001.out 1
                    obtain ⟨Ao75, co75, eo75⟩ := Kd.R_slice HO_4002000.out
                    subst eo75
                    obtain ⟨Ao76, co76, eo76⟩ := Kd.R_slice HO_4002001.out
                    subst eo76
                    try go_wp2_with (first | ((with_reducible refine gate_callee (f := 25) rfl ?_); refine goesL_ (some 62) rfl rfl Try.func25 (by kernel_rfl) rfl #[.agg #[.slice Ao75 x4002000_1.length co75, .slice Ao76 x4002001_1.length co76], .int .i64 a2] rfl (by (try simp only [List.map_toArray, List.map_cons, List.map_nil]); first | done | rfl | (simp only [List.length_drop, List.length_take]; rfl)) ?_; (with_reducible refine (disk_Crash.calls _ _ x4002000_1 _ _ x4002001_1 a2 t4026 t4029 _ ?side1 ?side2 ?side3 ?side4 A64.out).mono ?_); (case side1 => exact Kd.C_ext (Kd.R_reads' HO_4002000.out).2.2); (case side2 => exact (Kd.R_reads' HO_4002000.out).2.1); (case side3 => exact Kd.C_ext (Kd.R_reads' HO_4002001.out).2.2); (case side4 => exact (Kd.R_reads' HO_4002001.out).2.1); rintro e w77 ⟨v4027, v4030, rfl, ho0, ho1, hb⟩; refine ⟨_, rfl, ?_⟩; have n4_ := Aside0.mk (Kd.R_lower (Kd.R_new' (Kd.R_new' (Kd.R_new' (Kd.R_newM (M := fun k_ => (w.heap.size ≤ k_)) ho0 (below_size (below_extB HB.out)) (fun k_ h_ => h_)) (Kd.R_lt (Kd.R_ext HO_8.out))) (Kd.R_lt (Kd.R_ext HO_4002000.out))) (Kd.R_lt (Kd.R_ext HO_4002001.out))) (below_size (below_extB HB.out))); have n5_ := Aside0.mk (Kd.R_lower (Kd.R_new' (Kd.R_new' (Kd.R_new' (Kd.R_newM (M := fun k_ => (w.heap.size ≤ k_)) ho1 (below_size (below_extB HB.out)) (fun k_ h_ => h_)) (Kd.R_lt (Kd.R_ext HO_8.out))) (Kd.R_lt (Kd.R_ext HO_4002000.out))) (Kd.R_lt (Kd.R_ext HO_4002001.out))) (below_size (below_extB HB.out))); have HO4028 := n4_; have HO4031 := n5_; replace HO_0 := tdV2 HO_0 hb (Kd.R_base ho0) (Kd.R_base ho1); replace HO_8 := tdR2 HO_8 hb (Kd.R_base ho0) (Kd.R_base ho1); replace HO_4002000 := tdR2 HO_4002000 hb (Kd.R_base ho0) (Kd.R_base ho1); replace HO_4002001 := tdR2 HO_4002001 hb (Kd.R_base ho0) (Kd.R_base ho1); replace BK4001 := mvB BK4001 hb; replace HB := mvH HB hb; clear n4_ n5_; (try clear hb); (try clear hb2); (try clear hk); (try clear hi); (try clear ho0); (try clear ho1); obtain ⟨Ao78, co78, eo78⟩ := Kd.R_slice HO4028.out; subst eo78; obtain ⟨Ao79, co79, eo79⟩ := Kd.R_slice HO4031.out; subst eo79) | ((with_reducible refine gate_callee (f := 22) rfl ?_); refine goesL_ (some 63) rfl rfl Try.func22 (by kernel_rfl) rfl #[.agg #[.slice Ao78 t4026.length co78, .slice Ao79 t4029.length co79]] rfl (by (try simp only [List.map_toArray, List.map_cons, List.map_nil]); first | done | rfl | (simp only [List.length_drop, List.length_take]; rfl)) ?_; (with_reducible refine (disk_Read.calls _ _ t4026 _ _ t4029 t4032 _ ?side1 ?side2 ?side3 ?side4 A65.out).mono ?_); (case side1 => exact Kd.C_ext (Kd.R_reads' HO4028.out).2.2); (case side2 => exact (Kd.R_reads' HO4028.out).2.1); (case side3 => exact Kd.C_ext (Kd.R_reads' HO4031.out).2.2); (case side4 => exact (Kd.R_reads' HO4031.out).2.1); rintro e w80 ⟨v4033, rfl, ho0, hb⟩; refine ⟨_, rfl, ?_⟩; have n6_ := Aside0.mk (Kd.R_lower (Kd.R_new' (Kd.R_new' (Kd.R_new' (Kd.R_new' (Kd.R_new' (Kd.R_newM (M := fun k_ => (w.heap.size ≤ k_)) ho0 (below_size (below_extB HB.out)) (fun k_ h_ => h_)) (Kd.R_lt (Kd.R_ext HO_8.out))) (Kd.R_lt (Kd.R_ext HO_4002000.out))) (Kd.R_lt (Kd.R_ext HO_4002001.out))) (Kd.R_lt (Kd.R_ext HO4028.out))) (Kd.R_lt (Kd.R_ext HO4031.out))) (below_size (below_extB HB.out))); have HO4034 := n6_; replace HO_0 := apV HO_0 hb (Kd.R_base ho0); replace HO_8 := apR HO_8 hb (Kd.R_base ho0); replace HO_4002000 := apR HO_4002000 hb (Kd.R_base ho0); replace HO_4002001 := apR HO_4002001 hb (Kd.R_base ho0); replace HO4028 := apR HO4028 hb (Kd.R_base ho0); replace HO4031 := apR HO4031 hb (Kd.R_base ho0); replace BK4001 := mvB BK4001 hb; replace HB := mvH HB hb; clear n6_; (try clear hb); (try clear hb2); (try clear hk); (try clear hi); (try clear ho0)))
                    have n0_ := Aside0.mk (Kd.V_drew HO_0.out)
                    have n1_ := Aside0.mk (Kd.R_drew HO_8.out)
                    have n2_ := Aside0.mk (Kd.R_drew HO_4002000.out)
                    have n3_ := Aside0.mk (Kd.R_drew HO_4002001.out)
                    have n4_ := Aside0.mk (Kd.R_drew HO4028.out)
                    have n5_ := Aside0.mk (Kd.R_drew HO4031.out)
                    have n6_ := Aside0.mk (Kd.R_drew HO4034.out)
                    have n7_ := Aside0.mk (blk_drew BK4001.out)
                    have n8_ := Aside0.mk (below_drew1 HB.out)
                    clear HO_0
                    clear HO_8
                    clear HO_4002000
                    clear HO_4002001
                    clear HO4028
                    clear HO4031
                    clear HO4034
                    clear BK4001
                    clear HB
                    have HO_0 := n0_
                    have HO_8 := n1_
                    have HO_4002000 := n2_
                    have HO_4002001 := n3_
                    have HO4028 := n4_
                    have HO4031 := n5_
                    have HO4034 := n6_
                    have BK4001 := n7_
                    have HB := n8_
                    clear n0_ n1_ n2_ n3_ n4_ n5_ n6_ n7_ n8_
                    obtain ⟨Ao82, co82, eo82⟩ := Kd.R_slice HO4034.out
                    (first | subst eo82 | (injection eo82 with f1_ f2_ f3_; have f4_ := f1_.symm; have f5_ := f3_.symm; clear f1_ f2_ f3_; subst f4_; subst f5_))
                    obtain ⟨Ao83, co83, eo83⟩ := Kd.R_slice HO_8.out
                    (first | subst eo83 | (injection eo83 with f1_ f2_ f3_; have f4_ := f1_.symm; have f5_ := f3_.symm; clear f1_ f2_ f3_; subst f4_; subst f5_))
                    have q84 : ((t4032.length : Int) : Int) ≤ ((x8_1.length : Int) : Int) := of_decide_eq_true (by first | (with_reducible assumption) | assumption)
                    obtain ⟨i084, hi084, _, hsz84, _⟩ := info_parts info5
                    have hroom84 : x8_1.length ≤ co83 := (Kd.R_reads' HO_8.out).2.1
                    have hC84 : Kd.C (Kd.int .u8) _ Ao83 x8_1.length x8_1 := (Kd.R_reads' HO_8.out).2.2
                    have hcut84 := cut_to (P := Try.prog) 22 5 .i64 Try.underlying22 hi084 Ao83 x8_1.length co83 (t4032.length : Int) (of_decide_eq_true (by first | (with_reducible assumption) | assumption)) q84 hroom84
                    have hr84 := Kd.C_take (m := ((t4032.length : Int) : Int).toNat) hC84 (by omega)
                    have hy84 : y4035.length = ((t4032.length : Int) : Int).toNat := (by rw [Ny4035.out, List.length_take]; omega)
                    rw [← Ny4035.out] at hr84
                    rw [← hy84] at hcut84
                    have HR4038 := Aside0.mk hr84
                    have HC4038 := Aside0.mk (show y4035.length ≤ co83 from by omega)
                    clear hr84 hC84 hroom84 hi084 hsz84
                    have KY84 := Aside0.mk hy84
                    clear hy84
                    have KL84 := Aside0.mk (show ((t4032.length : Int) : Int).toNat ≤ x8_1.length from by omega)
                    replace q84 := eq_true q84
                    refine start_ (n := 33) (S := fun w' => w'.cell? ⟨gb4001, 0, none⟩ = some (.slice Ao75 x4002000_1.length co75) ∧ w'.cell? ⟨gb4001, 1, none⟩ = some (.slice Ao76 x4002001_1.length co76)) (ds := []) #[false, false, false, false, false, false, false, false, false, false, false, false, false, false, false, false, false, false, false, false, false, false, false, false, false, false, false, false, false, false, false, false, false] (by kernel_rfl) rfl rfl ⟨(blk_cell BK4001.out 0).trans rfl, (blk_cell BK4001.out 1).trans rfl⟩ (fun hHeld => ?_); refine with_tabW customslaw33_DiskPrefix.tab19 customslaw33_DiskPrefix.bits19 (fun HT_ HW_ => ?_)
                    generalize w80.drew = w81 at HO_0 HO_8 HO_4002000 HO_4002001 HO4028 HO4031 HO4034 BK4001 HB HR4038 hHeld ⊢
                    refine pure_ (i := 0) (N := some 64) (v := ?_) (a' := ?_) #[true, false, false, false, false, false, false, false, false, false, false, false, false, false, false, false, false, false, false, false, false, false, false, false, false, false, false, false, false, false, false, false, false] rfl rfl (any_of HT_.out (by kernel_rfl)) (fun _ _ _ h => h) (Or.inl ⟨by rfl, ?_⟩) ?_ ?_
                    rotate_left
                    · intro w'
                      go_simp
                      with_reducible rfl
                    rotate_left
                    · simp only [Act.put, List.setIfInBounds_toArray, List.set_cons_zero, List.set_cons_succ, i64_w, i32_w]
                      rfl
                    refine pure_ (i := 1) (N := some 65) (v := ?_) (a' := ?_) #[true, true, false, false, false, false, false, false, false, false, false, false, false, false, false, false, false, false, false, false, false, false, false, false, false, false, false, false, false, false, false, false, false] rfl rfl (any_of HT_.out (by kernel_rfl)) (fun _ _ _ h => h) (Or.inl ⟨by rfl, ?_⟩) ?_ ?_
                    rotate_left
                    · intro w'
                      go_simp
                      with_reducible rfl
                    rotate_left
                    · simp only [Act.put, List.setIfInBounds_toArray, List.set_cons_zero, List.set_cons_succ, i64_w, i32_w]
                      rfl
                    refine pure_ (i := 2) (N := some 66) (v := ?_) (a' := ?_) #[true, true, true, false, false, false, false, false, false, false, false, false, false, false, false, false, false, false, false, false, false, false, false, false, false, false, false, false, false, false, false, false, false] rfl rfl (any_of HT_.out (by kernel_rfl)) (fun _ _ _ h => h) (Or.inl ⟨by rfl, ?_⟩) ?_ ?_
                    rotate_left
                    · intro w'
                      go_simp
                      with_reducible rfl
                    rotate_left
                    · simp only [Act.put, List.setIfInBounds_toArray, List.set_cons_zero, List.set_cons_succ, i64_w, i32_w]
                      rfl
                    refine pure_ (i := 3) (N := some 67) (v := ?_) (a' := ?_) #[true, true, true, true, false, false, false, false, false, false, false, false, false, false, false, false, false, false, false, false, false, false, false, false, false, false, false, false, false, false, false, false, false] rfl rfl (any_of HT_.out (by kernel_rfl)) (fun _ _ _ h => h) (Or.inl ⟨by rfl, ?_⟩) ?_ ?_
                    rotate_left
                    · intro w'
                      go_simp
                      with_reducible rfl
                    rotate_left
                    · simp only [Act.put, List.setIfInBounds_toArray, List.set_cons_zero, List.set_cons_succ, i64_w, i32_w]
                      rfl
                    refine pure_ (i := 4) (N := some 68) (v := ?_) (a' := ?_) #[true, true, true, true, true, false, false, false, false, false, false, false, false, false, false, false, false, false, false, false, false, false, false, false, false, false, false, false, false, false, false, false, false] rfl rfl (any_of HT_.out (by kernel_rfl)) (fun _ _ _ h => h) (Or.inl ⟨by rfl, ?_⟩) ?_ ?_
                    rotate_left
                    · intro w'
                      go_simp
                      with_reducible rfl
                    rotate_left
                    · simp only [Act.put, List.setIfInBounds_toArray, List.set_cons_zero, List.set_cons_succ, i64_w, i32_w]
                      rfl
                    refine pure_ (i := 5) (N := some 69) (v := ?_) (a' := ?_) #[true, true, true, true, true, true, false, false, false, false, false, false, false, false, false, false, false, false, false, false, false, false, false, false, false, false, false, false, false, false, false, false, false] rfl rfl (any_of HT_.out (by kernel_rfl)) (fun _ _ _ h => h) (Or.inl ⟨by rfl, ?_⟩) ?_ ?_
                    rotate_left
                    · intro w'
                      go_simp
                      with_reducible rfl
                    rotate_left
                    · simp only [Act.put, List.setIfInBounds_toArray, List.set_cons_zero, List.set_cons_succ, i64_w, i32_w]
                      rfl
                    refine pure_ (i := 6) (N := some 70) (v := ?_) (a' := ?_) #[true, true, true, true, true, true, true, false, false, false, false, false, false, false, false, false, false, false, false, false, false, false, false, false, false, false, false, false, false, false, false, false, false] rfl rfl (any_of HT_.out (by kernel_rfl)) (fun _ _ _ h => h) (Or.inl ⟨by rfl, ?_⟩) ?_ ?_
                    rotate_left
                    · intro w'
                      go_simp
                      with_reducible rfl
                    rotate_left
                    · simp only [Act.put, List.setIfInBounds_toArray, List.set_cons_zero, List.set_cons_succ, i64_w, i32_w]
                      rfl
                    refine pure_ (i := 7) (N := some 71) (v := ?_) (a' := ?_) #[true, true, true, true, true, true, true, true, false, false, false, false, false, false, false, false, false, false, false, false, false, false, false, false, false, false, false, false, false, false, false, false, false] rfl rfl (any_of HT_.out (by kernel_rfl)) (fun _ _ _ h => h) (Or.inl ⟨by rfl, ?_⟩) ?_ ?_
                    rotate_left
                    · intro w'
                      go_simp
                      with_reducible rfl
                    rotate_left
                    · simp only [Act.put, List.setIfInBounds_toArray, List.set_cons_zero, List.set_cons_succ, i64_w, i32_w]
                      rfl
                    refine pure_ (i := 8) (N := some 72) (v := ?_) (a' := ?_) #[true, true, true, true, true, true, true, true, true, false, false, false, false, false, false, false, false, false, false, false, false, false, false, false, false, false, false, false, false, false, false, false, false] rfl rfl (any_of HT_.out (by kernel_rfl)) (fun _ _ _ h => h) (Or.inl ⟨by rfl, ?_⟩) ?_ ?_
                    rotate_left
                    · intro w'
                      go_simp
                      with_reducible rfl
                    rotate_left
                    · simp only [Act.put, List.setIfInBounds_toArray, List.set_cons_zero, List.set_cons_succ, i64_w, i32_w]
                      rfl
                    refine pure_ (i := 9) (N := some 73) (v := ?_) (a' := ?_) #[true, true, true, true, true, true, true, true, true, true, false, false, false, false, false, false, false, false, false, false, false, false, false, false, false, false, false, false, false, false, false, false, false] rfl rfl (any_of HT_.out (by kernel_rfl)) (fun _ _ _ h => h) (Or.inl ⟨by rfl, ?_⟩) ?_ ?_
                    rotate_left
                    · intro w'
                      go_simp
                      with_reducible rfl
                    rotate_left
                    · simp only [Act.put, List.setIfInBounds_toArray, List.set_cons_zero, List.set_cons_succ, i64_w, i32_w]
                      rfl
                    refine pure_ (i := 10) (N := some 74) (v := ?_) (a' := ?_) #[true, true, true, true, true, true, true, true, true, true, true, false, false, false, false, false, false, false, false, false, false, false, false, false, false, false, false, false, false, false, false, false, false] rfl rfl (any_of HT_.out (by kernel_rfl)) (fun _ _ _ h => h) (Or.inl ⟨by rfl, ?_⟩) ?_ ?_
                    rotate_left
                    · intro w'
                      go_simp
                      with_reducible rfl
                    rotate_left
                    · simp only [Act.put, List.setIfInBounds_toArray, List.set_cons_zero, List.set_cons_succ, i64_w, i32_w]
                      rfl
                    refine pure_ (i := 11) (N := some 75) (v := ?_) (a' := ?_) #[true, true, true, true, true, true, true, true, true, true, true, true, false, false, false, false, false, false, false, false, false, false, false, false, false, false, false, false, false, false, false, false, false] rfl rfl (any_of HT_.out (by kernel_rfl)) (fun _ _ _ h => h) (Or.inl ⟨by rfl, ?_⟩) ?_ ?_
                    rotate_left
                    · intro w'
                      go_simp
                      with_reducible rfl
                    rotate_left
                    · simp only [Act.put, List.setIfInBounds_toArray, List.set_cons_zero, List.set_cons_succ, i64_w, i32_w]
                      rfl
                    refine pure_ (i := 12) (N := some 76) (v := ?_) (a' := ?_) #[true, true, true, true, true, true, true, true, true, true, true, true, true, false, false, false, false, false, false, false, false, false, false, false, false, false, false, false, false, false, false, false, false] rfl rfl (any_of HT_.out (by kernel_rfl)) (fun _ _ _ h => h) (Or.inl ⟨by rfl, ?_⟩) ?_ ?_
                    rotate_left
                    · intro w'
                      go_simp
                      with_reducible rfl
                    rotate_left
                    · simp only [Act.put, List.setIfInBounds_toArray, List.set_cons_zero, List.set_cons_succ, i64_w, i32_w]
                      rfl
                    refine pure_ (i := 14) (N := some 78) (v := ?_) (a' := ?_) #[true, true, true, true, true, true, true, true, true, true, true, true, true, false, true, false, false, false, false, false, false, false, false, false, false, false, false, false, false, false, false, false, false] rfl rfl (any_of HT_.out (by kernel_rfl)) (fun _ _ _ h => h) (Or.inl ⟨by rfl, ?_⟩) ?_ ?_
                    rotate_left
                    · intro w'
                      go_simp
                      with_reducible rfl
                    rotate_left
                    · simp only [Act.put, List.setIfInBounds_toArray, List.set_cons_zero, List.set_cons_succ, i64_w, i32_w]
                      rfl
                    refine pure_ (i := 15) (N := some 79) (v := ?_) (a' := ?_) #[true, true, true, true, true, true, true, true, true, true, true, true, true, false, true, true, false, false, false, false, false, false, false, false, false, false, false, false, false, false, false, false, false] rfl rfl (any_of HT_.out (by kernel_rfl)) (fun _ _ _ h => h) (Or.inl ⟨by rfl, ?_⟩) ?_ ?_
                    rotate_left
                    · intro w'
                      go_simp
                      with_reducible rfl
                    rotate_left
                    · simp only [Act.put, List.setIfInBounds_toArray, List.set_cons_zero, List.set_cons_succ, i64_w, i32_w]
                      rfl
                    refine pure_ (i := 16) (N := some 80) (v := ?_) (a' := ?_) #[true, true, true, true, true, true, true, true, true, true, true, true, true, false, true, true, true, false, false, false, false, false, false, false, false, false, false, false, false, false, false, false, false] rfl rfl (any_of HT_.out (by kernel_rfl)) (fun _ _ _ h => h) (Or.inl ⟨by rfl, ?_⟩) ?_ ?_
                    rotate_left
                    · intro w'
                      go_simp
                      with_reducible rfl
                    rotate_left
                    · simp only [Act.put, List.setIfInBounds_toArray, List.set_cons_zero, List.set_cons_succ, i64_w, i32_w]
                      rfl
                    refine pure_ (i := 17) (N := some 81) (v := ?_) (a' := ?_) #[true, true, true, true, true, true, true, true, true, true, true, true, true, false, true, true, true, true, false, false, false, false, false, false, false, false, false, false, false, false, false, false, false] rfl rfl (any_of HT_.out (by kernel_rfl)) (fun _ _ _ h => h) (Or.inl ⟨by rfl, ?_⟩) ?_ ?_
                    rotate_left
                    · intro w'
                      go_simp
                      with_reducible rfl
                    rotate_left
                    · simp only [Act.put, List.setIfInBounds_toArray, List.set_cons_zero, List.set_cons_succ, i64_w, i32_w]
                      rfl
                    refine join_ (σ := Value) 6 #[true, true, true, true, true, true, true, true, true, true, true, true, true, true, true, true, true, true, true, true, true, true, true, true, true, true, true, false, false, false, false, false, false] (fun s_ => [(77, .string (strOfNums t4032)), (82, .string (strOfNums y4035)), (87, s_), (88, .string (strOfNums t4039)), (90, .string (strOfNums x8_1)), (83, .bool true), (84, .bool true), (85, .bool true), (86, .agg #[.slice Ao75 x4002000_1.length co75, .slice Ao76 x4002001_1.length co76]), (89, .slice Ao83 x8_1.length co83)]) (fun s_ w' => (w'.cell? ⟨gb4001, 0, none⟩ = some (.slice Ao75 x4002000_1.length co75) ∧ w'.cell? ⟨gb4001, 1, none⟩ = some (.slice Ao76 x4002001_1.length co76)) ∧ (Kd.R (Kd.int .u8) 5 w' w.heap.size (fun k_ => (w.heap.size ≤ k_) ∧ some k_ ≠ (.slice Ao79 t4029.length co79 : Value).ownBlock ∧ some k_ ≠ (.slice Ao82 t4032.length co82 : Value).ownBlock ∧ some k_ ≠ (s_ : Value).ownBlock ∧ some k_ ≠ (.slice Ao75 x4002000_1.length co75 : Value).ownBlock ∧ some k_ ≠ (.slice Ao76 x4002001_1.length co76 : Value).ownBlock ∧ some k_ ≠ (.slice Ao83 x8_1.length co83 : Value).ownBlock) (.slice Ao78 t4026.length co78) t4026) ∧ (Kd.R (Kd.int .u8) 5 w' w.heap.size (fun k_ => (w.heap.size ≤ k_) ∧ some k_ ≠ (.slice Ao78 t4026.length co78 : Value).ownBlock ∧ some k_ ≠ (.slice Ao82 t4032.length co82 : Value).ownBlock ∧ some k_ ≠ (s_ : Value).ownBlock ∧ some k_ ≠ (.slice Ao75 x4002000_1.length co75 : Value).ownBlock ∧ some k_ ≠ (.slice Ao76 x4002001_1.length co76 : Value).ownBlock ∧ some k_ ≠ (.slice Ao83 x8_1.length co83 : Value).ownBlock) (.slice Ao79 t4029.length co79) t4029) ∧ (Kd.R (Kd.int .u8) 5 w' w.heap.size (fun k_ => (w.heap.size ≤ k_) ∧ some k_ ≠ (.slice Ao78 t4026.length co78 : Value).ownBlock ∧ some k_ ≠ (.slice Ao79 t4029.length co79 : Value).ownBlock ∧ some k_ ≠ (s_ : Value).ownBlock ∧ some k_ ≠ (.slice Ao75 x4002000_1.length co75 : Value).ownBlock ∧ some k_ ≠ (.slice Ao76 x4002001_1.length co76 : Value).ownBlock ∧ some k_ ≠ (.slice Ao83 x8_1.length co83 : Value).ownBlock) (.slice Ao82 t4032.length co82) t4032) ∧ (Kd.R (Kd.int .u8) 5 w' w.heap.size (fun k_ => (w.heap.size ≤ k_) ∧ some k_ ≠ (.slice Ao78 t4026.length co78 : Value).ownBlock ∧ some k_ ≠ (.slice Ao79 t4029.length co79 : Value).ownBlock ∧ some k_ ≠ (.slice Ao82 t4032.length co82 : Value).ownBlock ∧ some k_ ≠ (.slice Ao75 x4002000_1.length co75 : Value).ownBlock ∧ some k_ ≠ (.slice Ao76 x4002001_1.length co76 : Value).ownBlock ∧ some k_ ≠ (.slice Ao83 x8_1.length co83 : Value).ownBlock) s_ t4039) ∧ (Kd.V (Kd.slice 5 (Kd.int .u8)) 22 w' w.heap.size (fun k_ => (P0_ k_ ∨ w.heap.size ≤ k_) ∧ some k_ ≠ (.slice Ao78 t4026.length co78 : Value).ownBlock ∧ some k_ ≠ (.slice Ao79 t4029.length co79 : Value).ownBlock ∧ some k_ ≠ (.slice Ao82 t4032.length co82 : Value).ownBlock ∧ some k_ ≠ (s_ : Value).ownBlock ∧ some k_ ≠ (.slice Ao75 x4002000_1.length co75 : Value).ownBlock ∧ some k_ ≠ (.slice Ao76 x4002001_1.length co76 : Value).ownBlock ∧ some k_ ≠ (.slice Ao83 x8_1.length co83 : Value).ownBlock ∧ k_ ≠ gb4001) (.slice A0 l0.length c0) l0) ∧ (Kd.R (Kd.int .u8) 5 w' w.heap.size (fun k_ => (w.heap.size ≤ k_) ∧ some k_ ≠ (.slice Ao78 t4026.length co78 : Value).ownBlock ∧ some k_ ≠ (.slice Ao79 t4029.length co79 : Value).ownBlock ∧ some k_ ≠ (.slice Ao82 t4032.length co82 : Value).ownBlock ∧ some k_ ≠ (s_ : Value).ownBlock ∧ some k_ ≠ (.slice Ao76 x4002001_1.length co76 : Value).ownBlock ∧ some k_ ≠ (.slice Ao83 x8_1.length co83 : Value).ownBlock) (.slice Ao75 x4002000_1.length co75) x4002000_1) ∧ (Kd.R (Kd.int .u8) 5 w' w.heap.size (fun k_ => (w.heap.size ≤ k_) ∧ some k_ ≠ (.slice Ao78 t4026.length co78 : Value).ownBlock ∧ some k_ ≠ (.slice Ao79 t4029.length co79 : Value).ownBlock ∧ some k_ ≠ (.slice Ao82 t4032.length co82 : Value).ownBlock ∧ some k_ ≠ (s_ : Value).ownBlock ∧ some k_ ≠ (.slice Ao75 x4002000_1.length co75 : Value).ownBlock ∧ some k_ ≠ (.slice Ao83 x8_1.length co83 : Value).ownBlock) (.slice Ao76 x4002001_1.length co76) x4002001_1) ∧ (Kd.R (Kd.int .u8) 5 w' w.heap.size (fun k_ => (w.heap.size ≤ k_) ∧ some k_ ≠ (.slice Ao78 t4026.length co78 : Value).ownBlock ∧ some k_ ≠ (.slice Ao79 t4029.length co79 : Value).ownBlock ∧ some k_ ≠ (.slice Ao82 t4032.length co82 : Value).ownBlock ∧ some k_ ≠ (s_ : Value).ownBlock ∧ some k_ ≠ (.slice Ao75 x4002000_1.length co75 : Value).ownBlock ∧ some k_ ≠ (.slice Ao76 x4002001_1.length co76 : Value).ownBlock) (.slice Ao83 x8_1.length co83) x8_1) ∧ (w'.heap[gb4001]? = some (.cells #[.slice Ao75 x4002000_1.length co75, .slice Ao76 x4002001_1.length co76] 24 (0, 0))) ∧ (Below w.heap.size w w')) ?_ ?_
                    rotate_left
                    · intro hJ13_18_23_24_26
                      refine join_ (σ := Value) 7 #[true, true, true, true, true, true, true, true, true, true, true, true, true, true, true, true, true, true, true, true, true, true, true, true, true, true, false, false, false, false, false, false, false] (fun s_ => [(77, .string (strOfNums t4032)), (82, .string (strOfNums y4035)), (87, s_), (88, .string (strOfNums t4039)), (83, .bool true), (84, .bool true), (85, .bool true), (86, .agg #[.slice Ao75 x4002000_1.length co75, .slice Ao76 x4002001_1.length co76]), (89, .slice Ao83 x8_1.length co83)]) (fun s_ w' => (w'.cell? ⟨gb4001, 0, none⟩ = some (.slice Ao75 x4002000_1.length co75) ∧ w'.cell? ⟨gb4001, 1, none⟩ = some (.slice Ao76 x4002001_1.length co76)) ∧ (Kd.R (Kd.int .u8) 5 w' w.heap.size (fun k_ => (w.heap.size ≤ k_) ∧ some k_ ≠ (.slice Ao79 t4029.length co79 : Value).ownBlock ∧ some k_ ≠ (.slice Ao82 t4032.length co82 : Value).ownBlock ∧ some k_ ≠ (s_ : Value).ownBlock ∧ some k_ ≠ (.slice Ao75 x4002000_1.length co75 : Value).ownBlock ∧ some k_ ≠ (.slice Ao76 x4002001_1.length co76 : Value).ownBlock ∧ some k_ ≠ (.slice Ao83 x8_1.length co83 : Value).ownBlock) (.slice Ao78 t4026.length co78) t4026) ∧ (Kd.R (Kd.int .u8) 5 w' w.heap.size (fun k_ => (w.heap.size ≤ k_) ∧ some k_ ≠ (.slice Ao78 t4026.length co78 : Value).ownBlock ∧ some k_ ≠ (.slice Ao82 t4032.length co82 : Value).ownBlock ∧ some k_ ≠ (s_ : Value).ownBlock ∧ some k_ ≠ (.slice Ao75 x4002000_1.length co75 : Value).ownBlock ∧ some k_ ≠ (.slice Ao76 x4002001_1.length co76 : Value).ownBlock ∧ some k_ ≠ (.slice Ao83 x8_1.length co83 : Value).ownBlock) (.slice Ao79 t4029.length co79) t4029) ∧ (Kd.R (Kd.int .u8) 5 w' w.heap.size (fun k_ => (w.heap.size ≤ k_) ∧ some k_ ≠ (.slice Ao78 t4026.length co78 : Value).ownBlock ∧ some k_ ≠ (.slice Ao79 t4029.length co79 : Value).ownBlock ∧ some k_ ≠ (s_ : Value).ownBlock ∧ some k_ ≠ (.slice Ao75 x4002000_1.length co75 : Value).ownBlock ∧ some k_ ≠ (.slice Ao76 x4002001_1.length co76 : Value).ownBlock ∧ some k_ ≠ (.slice Ao83 x8_1.length co83 : Value).ownBlock) (.slice Ao82 t4032.length co82) t4032) ∧ (Kd.R (Kd.int .u8) 5 w' w.heap.size (fun k_ => (w.heap.size ≤ k_) ∧ some k_ ≠ (.slice Ao78 t4026.length co78 : Value).ownBlock ∧ some k_ ≠ (.slice Ao79 t4029.length co79 : Value).ownBlock ∧ some k_ ≠ (.slice Ao82 t4032.length co82 : Value).ownBlock ∧ some k_ ≠ (.slice Ao75 x4002000_1.length co75 : Value).ownBlock ∧ some k_ ≠ (.slice Ao76 x4002001_1.length co76 : Value).ownBlock ∧ some k_ ≠ (.slice Ao83 x8_1.length co83 : Value).ownBlock) s_ t4039) ∧ (Kd.V (Kd.slice 5 (Kd.int .u8)) 22 w' w.heap.size (fun k_ => (P0_ k_ ∨ w.heap.size ≤ k_) ∧ some k_ ≠ (.slice Ao78 t4026.length co78 : Value).ownBlock ∧ some k_ ≠ (.slice Ao79 t4029.length co79 : Value).ownBlock ∧ some k_ ≠ (.slice Ao82 t4032.length co82 : Value).ownBlock ∧ some k_ ≠ (s_ : Value).ownBlock ∧ some k_ ≠ (.slice Ao75 x4002000_1.length co75 : Value).ownBlock ∧ some k_ ≠ (.slice Ao76 x4002001_1.length co76 : Value).ownBlock ∧ some k_ ≠ (.slice Ao83 x8_1.length co83 : Value).ownBlock ∧ k_ ≠ gb4001) (.slice A0 l0.length c0) l0) ∧ (Kd.R (Kd.int .u8) 5 w' w.heap.size (fun k_ => (w.heap.size ≤ k_) ∧ some k_ ≠ (.slice Ao78 t4026.length co78 : Value).ownBlock ∧ some k_ ≠ (.slice Ao79 t4029.length co79 : Value).ownBlock ∧ some k_ ≠ (.slice Ao82 t4032.length co82 : Value).ownBlock ∧ some k_ ≠ (s_ : Value).ownBlock ∧ some k_ ≠ (.slice Ao76 x4002001_1.length co76 : Value).ownBlock ∧ some k_ ≠ (.slice Ao83 x8_1.length co83 : Value).ownBlock) (.slice Ao75 x4002000_1.length co75) x4002000_1) ∧ (Kd.R (Kd.int .u8) 5 w' w.heap.size (fun k_ => (w.heap.size ≤ k_) ∧ some k_ ≠ (.slice Ao78 t4026.length co78 : Value).ownBlock ∧ some k_ ≠ (.slice Ao79 t4029.length co79 : Value).ownBlock ∧ some k_ ≠ (.slice Ao82 t4032.length co82 : Value).ownBlock ∧ some k_ ≠ (s_ : Value).ownBlock ∧ some k_ ≠ (.slice Ao75 x4002000_1.length co75 : Value).ownBlock ∧ some k_ ≠ (.slice Ao83 x8_1.length co83 : Value).ownBlock) (.slice Ao76 x4002001_1.length co76) x4002001_1) ∧ (Kd.R (Kd.int .u8) 5 w' w.heap.size (fun k_ => (w.heap.size ≤ k_) ∧ some k_ ≠ (.slice Ao78 t4026.length co78 : Value).ownBlock ∧ some k_ ≠ (.slice Ao79 t4029.length co79 : Value).ownBlock ∧ some k_ ≠ (.slice Ao82 t4032.length co82 : Value).ownBlock ∧ some k_ ≠ (s_ : Value).ownBlock ∧ some k_ ≠ (.slice Ao75 x4002000_1.length co75 : Value).ownBlock ∧ some k_ ≠ (.slice Ao76 x4002001_1.length co76 : Value).ownBlock) (.slice Ao83 x8_1.length co83) x8_1) ∧ (w'.heap[gb4001]? = some (.cells #[.slice Ao75 x4002000_1.length co75, .slice Ao76 x4002001_1.length co76] 24 (0, 0))) ∧ (Below w.heap.size w w')) ?_ ?_
                      rotate_left
                      · intro hJ13_18_23_24
                        refine join_ (σ := Value) 7 #[true, true, true, true, true, true, true, true, true, true, true, true, true, true, true, true, true, true, true, true, true, true, true, true, false, true, true, false, false, false, false, false, false] (fun s_ => [(77, .string (strOfNums t4032)), (82, .string (strOfNums y4035)), (87, s_), (90, .string (strOfNums x8_1)), (83, .bool true), (84, .bool true), (85, .bool true), (86, .agg #[.slice Ao75 x4002000_1.length co75, .slice Ao76 x4002001_1.length co76]), (89, .slice Ao83 x8_1.length co83)]) (fun s_ w' => (w'.cell? ⟨gb4001, 0, none⟩ = some (.slice Ao75 x4002000_1.length co75) ∧ w'.cell? ⟨gb4001, 1, none⟩ = some (.slice Ao76 x4002001_1.length co76)) ∧ (Kd.R (Kd.int .u8) 5 w' w.heap.size (fun k_ => (w.heap.size ≤ k_) ∧ some k_ ≠ (.slice Ao79 t4029.length co79 : Value).ownBlock ∧ some k_ ≠ (.slice Ao82 t4032.length co82 : Value).ownBlock ∧ some k_ ≠ (s_ : Value).ownBlock ∧ some k_ ≠ (.slice Ao75 x4002000_1.length co75 : Value).ownBlock ∧ some k_ ≠ (.slice Ao76 x4002001_1.length co76 : Value).ownBlock ∧ some k_ ≠ (.slice Ao83 x8_1.length co83 : Value).ownBlock) (.slice Ao78 t4026.length co78) t4026) ∧ (Kd.R (Kd.int .u8) 5 w' w.heap.size (fun k_ => (w.heap.size ≤ k_) ∧ some k_ ≠ (.slice Ao78 t4026.length co78 : Value).ownBlock ∧ some k_ ≠ (.slice Ao82 t4032.length co82 : Value).ownBlock ∧ some k_ ≠ (s_ : Value).ownBlock ∧ some k_ ≠ (.slice Ao75 x4002000_1.length co75 : Value).ownBlock ∧ some k_ ≠ (.slice Ao76 x4002001_1.length co76 : Value).ownBlock ∧ some k_ ≠ (.slice Ao83 x8_1.length co83 : Value).ownBlock) (.slice Ao79 t4029.length co79) t4029) ∧ (Kd.R (Kd.int .u8) 5 w' w.heap.size (fun k_ => (w.heap.size ≤ k_) ∧ some k_ ≠ (.slice Ao78 t4026.length co78 : Value).ownBlock ∧ some k_ ≠ (.slice Ao79 t4029.length co79 : Value).ownBlock ∧ some k_ ≠ (s_ : Value).ownBlock ∧ some k_ ≠ (.slice Ao75 x4002000_1.length co75 : Value).ownBlock ∧ some k_ ≠ (.slice Ao76 x4002001_1.length co76 : Value).ownBlock ∧ some k_ ≠ (.slice Ao83 x8_1.length co83 : Value).ownBlock) (.slice Ao82 t4032.length co82) t4032) ∧ (Kd.R (Kd.int .u8) 5 w' w.heap.size (fun k_ => (w.heap.size ≤ k_) ∧ some k_ ≠ (.slice Ao78 t4026.length co78 : Value).ownBlock ∧ some k_ ≠ (.slice Ao79 t4029.length co79 : Value).ownBlock ∧ some k_ ≠ (.slice Ao82 t4032.length co82 : Value).ownBlock ∧ some k_ ≠ (.slice Ao75 x4002000_1.length co75 : Value).ownBlock ∧ some k_ ≠ (.slice Ao76 x4002001_1.length co76 : Value).ownBlock ∧ some k_ ≠ (.slice Ao83 x8_1.length co83 : Value).ownBlock) s_ t4039) ∧ (Kd.V (Kd.slice 5 (Kd.int .u8)) 22 w' w.heap.size (fun k_ => (P0_ k_ ∨ w.heap.size ≤ k_) ∧ some k_ ≠ (.slice Ao78 t4026.length co78 : Value).ownBlock ∧ some k_ ≠ (.slice Ao79 t4029.length co79 : Value).ownBlock ∧ some k_ ≠ (.slice Ao82 t4032.length co82 : Value).ownBlock ∧ some k_ ≠ (s_ : Value).ownBlock ∧ some k_ ≠ (.slice Ao75 x4002000_1.length co75 : Value).ownBlock ∧ some k_ ≠ (.slice Ao76 x4002001_1.length co76 : Value).ownBlock ∧ some k_ ≠ (.slice Ao83 x8_1.length co83 : Value).ownBlock ∧ k_ ≠ gb4001) (.slice A0 l0.length c0) l0) ∧ (Kd.R (Kd.int .u8) 5 w' w.heap.size (fun k_ => (w.heap.size ≤ k_) ∧ some k_ ≠ (.slice Ao78 t4026.length co78 : Value).ownBlock ∧ some k_ ≠ (.slice Ao79 t4029.length co79 : Value).ownBlock ∧ some k_ ≠ (.slice Ao82 t4032.length co82 : Value).ownBlock ∧ some k_ ≠ (s_ : Value).ownBlock ∧ some k_ ≠ (.slice Ao76 x4002001_1.length co76 : Value).ownBlock ∧ some k_ ≠ (.slice Ao83 x8_1.length co83 : Value).ownBlock) (.slice Ao75 x4002000_1.length co75) x4002000_1) ∧ (Kd.R (Kd.int .u8) 5 w' w.heap.size (fun k_ => (w.heap.size ≤ k_) ∧ some k_ ≠ (.slice Ao78 t4026.length co78 : Value).ownBlock ∧ some k_ ≠ (.slice Ao79 t4029.length co79 : Value).ownBlock ∧ some k_ ≠ (.slice Ao82 t4032.length co82 : Value).ownBlock ∧ some k_ ≠ (s_ : Value).ownBlock ∧ some k_ ≠ (.slice Ao75 x4002000_1.length co75 : Value).ownBlock ∧ some k_ ≠ (.slice Ao83 x8_1.length co83 : Value).ownBlock) (.slice Ao76 x4002001_1.length co76) x4002001_1) ∧ (Kd.R (Kd.int .u8) 5 w' w.heap.size (fun k_ => (w.heap.size ≤ k_) ∧ some k_ ≠ (.slice Ao78 t4026.length co78 : Value).ownBlock ∧ some k_ ≠ (.slice Ao79 t4029.length co79 : Value).ownBlock ∧ some k_ ≠ (.slice Ao82 t4032.length co82 : Value).ownBlock ∧ some k_ ≠ (s_ : Value).ownBlock ∧ some k_ ≠ (.slice Ao75 x4002000_1.length co75 : Value).ownBlock ∧ some k_ ≠ (.slice Ao76 x4002001_1.length co76 : Value).ownBlock) (.slice Ao83 x8_1.length co83) x8_1) ∧ (w'.heap[gb4001]? = some (.cells #[.slice Ao75 x4002000_1.length co75, .slice Ao76 x4002001_1.length co76] 24 (0, 0))) ∧ (Below w.heap.size w w')) ?_ ?_
                        rotate_left
                        · intro hJ13_18_23_26
                          refine join_ (σ := Value) 8 #[true, true, true, true, true, true, true, true, true, true, true, true, true, true, true, true, true, true, true, true, true, true, true, true, false, true, false, false, false, false, false, false, false] (fun s_ => [(77, .string (strOfNums t4032)), (82, .string (strOfNums y4035)), (87, s_), (83, .bool true), (84, .bool true), (85, .bool true), (86, .agg #[.slice Ao75 x4002000_1.length co75, .slice Ao76 x4002001_1.length co76]), (89, .slice Ao83 x8_1.length co83)]) (fun s_ w' => (w'.cell? ⟨gb4001, 0, none⟩ = some (.slice Ao75 x4002000_1.length co75) ∧ w'.cell? ⟨gb4001, 1, none⟩ = some (.slice Ao76 x4002001_1.length co76)) ∧ (Kd.R (Kd.int .u8) 5 w' w.heap.size (fun k_ => (w.heap.size ≤ k_) ∧ some k_ ≠ (.slice Ao79 t4029.length co79 : Value).ownBlock ∧ some k_ ≠ (.slice Ao82 t4032.length co82 : Value).ownBlock ∧ some k_ ≠ (s_ : Value).ownBlock ∧ some k_ ≠ (.slice Ao75 x4002000_1.length co75 : Value).ownBlock ∧ some k_ ≠ (.slice Ao76 x4002001_1.length co76 : Value).ownBlock ∧ some k_ ≠ (.slice Ao83 x8_1.length co83 : Value).ownBlock) (.slice Ao78 t4026.length co78) t4026) ∧ (Kd.R (Kd.int .u8) 5 w' w.heap.size (fun k_ => (w.heap.size ≤ k_) ∧ some k_ ≠ (.slice Ao78 t4026.length co78 : Value).ownBlock ∧ some k_ ≠ (.slice Ao82 t4032.length co82 : Value).ownBlock ∧ some k_ ≠ (s_ : Value).ownBlock ∧ some k_ ≠ (.slice Ao75 x4002000_1.length co75 : Value).ownBlock ∧ some k_ ≠ (.slice Ao76 x4002001_1.length co76 : Value).ownBlock ∧ some k_ ≠ (.slice Ao83 x8_1.length co83 : Value).ownBlock) (.slice Ao79 t4029.length co79) t4029) ∧ (Kd.R (Kd.int .u8) 5 w' w.heap.size (fun k_ => (w.heap.size ≤ k_) ∧ some k_ ≠ (.slice Ao78 t4026.length co78 : Value).ownBlock ∧ some k_ ≠ (.slice Ao79 t4029.length co79 : Value).ownBlock ∧ some k_ ≠ (s_ : Value).ownBlock ∧ some k_ ≠ (.slice Ao75 x4002000_1.length co75 : Value).ownBlock ∧ some k_ ≠ (.slice Ao76 x4002001_1.length co76 : Value).ownBlock ∧ some k_ ≠ (.slice Ao83 x8_1.length co83 : Value).ownBlock) (.slice Ao82 t4032.length co82) t4032) ∧ (Kd.R (Kd.int .u8) 5 w' w.heap.size (fun k_ => (w.heap.size ≤ k_) ∧ some k_ ≠ (.slice Ao78 t4026.length co78 : Value).ownBlock ∧ some k_ ≠ (.slice Ao79 t4029.length co79 : Value).ownBlock ∧ some k_ ≠ (.slice Ao82 t4032.length co82 : Value).ownBlock ∧ some k_ ≠ (.slice Ao75 x4002000_1.length co75 : Value).ownBlock ∧ some k_ ≠ (.slice Ao76 x4002001_1.length co76 : Value).ownBlock ∧ some k_ ≠ (.slice Ao83 x8_1.length co83 : Value).ownBlock) s_ t4039) ∧ (Kd.V (Kd.slice 5 (Kd.int .u8)) 22 w' w.heap.size (fun k_ => (P0_ k_ ∨ w.heap.size ≤ k_) ∧ some k_ ≠ (.slice Ao78 t4026.length co78 : Value).ownBlock ∧ some k_ ≠ (.slice Ao79 t4029.length co79 : Value).ownBlock ∧ some k_ ≠ (.slice Ao82 t4032.length co82 : Value).ownBlock ∧ some k_ ≠ (s_ : Value).ownBlock ∧ some k_ ≠ (.slice Ao75 x4002000_1.length co75 : Value).ownBlock ∧ some k_ ≠ (.slice Ao76 x4002001_1.length co76 : Value).ownBlock ∧ some k_ ≠ (.slice Ao83 x8_1.length co83 : Value).ownBlock ∧ k_ ≠ gb4001) (.slice A0 l0.length c0) l0) ∧ (Kd.R (Kd.int .u8) 5 w' w.heap.size (fun k_ => (w.heap.size ≤ k_) ∧ some k_ ≠ (.slice Ao78 t4026.length co78 : Value).ownBlock ∧ some k_ ≠ (.slice Ao79 t4029.length co79 : Value).ownBlock ∧ some k_ ≠ (.slice Ao82 t4032.length co82 : Value).ownBlock ∧ some k_ ≠ (s_ : Value).ownBlock ∧ some k_ ≠ (.slice Ao76 x4002001_1.length co76 : Value).ownBlock ∧ some k_ ≠ (.slice Ao83 x8_1.length co83 : Value).ownBlock) (.slice Ao75 x4002000_1.length co75) x4002000_1) ∧ (Kd.R (Kd.int .u8) 5 w' w.heap.size (fun k_ => (w.heap.size ≤ k_) ∧ some k_ ≠ (.slice Ao78 t4026.length co78 : Value).ownBlock ∧ some k_ ≠ (.slice Ao79 t4029.length co79 : Value).ownBlock ∧ some k_ ≠ (.slice Ao82 t4032.length co82 : Value).ownBlock ∧ some k_ ≠ (s_ : Value).ownBlock ∧ some k_ ≠ (.slice Ao75 x4002000_1.length co75 : Value).ownBlock ∧ some k_ ≠ (.slice Ao83 x8_1.length co83 : Value).ownBlock) (.slice Ao76 x4002001_1.length co76) x4002001_1) ∧ (Kd.R (Kd.int .u8) 5 w' w.heap.size (fun k_ => (w.heap.size ≤ k_) ∧ some k_ ≠ (.slice Ao78 t4026.length co78 : Value).ownBlock ∧ some k_ ≠ (.slice Ao79 t4029.length co79 : Value).ownBlock ∧ some k_ ≠ (.slice Ao82 t4032.length co82 : Value).ownBlock ∧ some k_ ≠ (s_ : Value).ownBlock ∧ some k_ ≠ (.slice Ao75 x4002000_1.length co75 : Value).ownBlock ∧ some k_ ≠ (.slice Ao76 x4002001_1.length co76 : Value).ownBlock) (.slice Ao83 x8_1.length co83) x8_1) ∧ (w'.heap[gb4001]? = some (.cells #[.slice Ao75 x4002000_1.length co75, .slice Ao76 x4002001_1.length co76] 24 (0, 0))) ∧ (Below w.heap.size w w')) ?_ ?_
                          rotate_left
                          · intro hJ13_18_23
                            refine join_ (σ := Unit) 8 #[true, true, true, true, true, true, true, true, true, true, true, true, true, true, true, true, true, true, true, true, true, true, true, false, false, true, true, false, false, false, false, false, false] (fun s_ => [(77, .string (strOfNums t4032)), (82, .string (strOfNums y4035)), (90, .string (strOfNums x8_1)), (83, .bool true), (84, .bool true), (85, .bool true), (86, .agg #[.slice Ao75 x4002000_1.length co75, .slice Ao76 x4002001_1.length co76]), (89, .slice Ao83 x8_1.length co83)]) (fun s_ w' => (w'.cell? ⟨gb4001, 0, none⟩ = some (.slice Ao75 x4002000_1.length co75) ∧ w'.cell? ⟨gb4001, 1, none⟩ = some (.slice Ao76 x4002001_1.length co76)) ∧ (Kd.R (Kd.int .u8) 5 w' w.heap.size (fun k_ => (w.heap.size ≤ k_) ∧ some k_ ≠ (.slice Ao79 t4029.length co79 : Value).ownBlock ∧ some k_ ≠ (.slice Ao82 t4032.length co82 : Value).ownBlock ∧ some k_ ≠ (.slice Ao75 x4002000_1.length co75 : Value).ownBlock ∧ some k_ ≠ (.slice Ao76 x4002001_1.length co76 : Value).ownBlock ∧ some k_ ≠ (.slice Ao83 x8_1.length co83 : Value).ownBlock) (.slice Ao78 t4026.length co78) t4026) ∧ (Kd.R (Kd.int .u8) 5 w' w.heap.size (fun k_ => (w.heap.size ≤ k_) ∧ some k_ ≠ (.slice Ao78 t4026.length co78 : Value).ownBlock ∧ some k_ ≠ (.slice Ao82 t4032.length co82 : Value).ownBlock ∧ some k_ ≠ (.slice Ao75 x4002000_1.length co75 : Value).ownBlock ∧ some k_ ≠ (.slice Ao76 x4002001_1.length co76 : Value).ownBlock ∧ some k_ ≠ (.slice Ao83 x8_1.length co83 : Value).ownBlock) (.slice Ao79 t4029.length co79) t4029) ∧ (Kd.R (Kd.int .u8) 5 w' w.heap.size (fun k_ => (w.heap.size ≤ k_) ∧ some k_ ≠ (.slice Ao78 t4026.length co78 : Value).ownBlock ∧ some k_ ≠ (.slice Ao79 t4029.length co79 : Value).ownBlock ∧ some k_ ≠ (.slice Ao75 x4002000_1.length co75 : Value).ownBlock ∧ some k_ ≠ (.slice Ao76 x4002001_1.length co76 : Value).ownBlock ∧ some k_ ≠ (.slice Ao83 x8_1.length co83 : Value).ownBlock) (.slice Ao82 t4032.length co82) t4032) ∧ (Kd.V (Kd.slice 5 (Kd.int .u8)) 22 w' w.heap.size (fun k_ => (P0_ k_ ∨ w.heap.size ≤ k_) ∧ some k_ ≠ (.slice Ao78 t4026.length co78 : Value).ownBlock ∧ some k_ ≠ (.slice Ao79 t4029.length co79 : Value).ownBlock ∧ some k_ ≠ (.slice Ao82 t4032.length co82 : Value).ownBlock ∧ some k_ ≠ (.slice Ao75 x4002000_1.length co75 : Value).ownBlock ∧ some k_ ≠ (.slice Ao76 x4002001_1.length co76 : Value).ownBlock ∧ some k_ ≠ (.slice Ao83 x8_1.length co83 : Value).ownBlock ∧ k_ ≠ gb4001) (.slice A0 l0.length c0) l0) ∧ (Kd.R (Kd.int .u8) 5 w' w.heap.size (fun k_ => (w.heap.size ≤ k_) ∧ some k_ ≠ (.slice Ao78 t4026.length co78 : Value).ownBlock ∧ some k_ ≠ (.slice Ao79 t4029.length co79 : Value).ownBlock ∧ some k_ ≠ (.slice Ao82 t4032.length co82 : Value).ownBlock ∧ some k_ ≠ (.slice Ao76 x4002001_1.length co76 : Value).ownBlock ∧ some k_ ≠ (.slice Ao83 x8_1.length co83 : Value).ownBlock) (.slice Ao75 x4002000_1.length co75) x4002000_1) ∧ (Kd.R (Kd.int .u8) 5 w' w.heap.size (fun k_ => (w.heap.size ≤ k_) ∧ some k_ ≠ (.slice Ao78 t4026.length co78 : Value).ownBlock ∧ some k_ ≠ (.slice Ao79 t4029.length co79 : Value).ownBlock ∧ some k_ ≠ (.slice Ao82 t4032.length co82 : Value).ownBlock ∧ some k_ ≠ (.slice Ao75 x4002000_1.length co75 : Value).ownBlock ∧ some k_ ≠ (.slice Ao83 x8_1.length co83 : Value).ownBlock) (.slice Ao76 x4002001_1.length co76) x4002001_1) ∧ (Kd.R (Kd.int .u8) 5 w' w.heap.size (fun k_ => (w.heap.size ≤ k_) ∧ some k_ ≠ (.slice Ao78 t4026.length co78 : Value).ownBlock ∧ some k_ ≠ (.slice Ao79 t4029.length co79 : Value).ownBlock ∧ some k_ ≠ (.slice Ao82 t4032.length co82 : Value).ownBlock ∧ some k_ ≠ (.slice Ao75 x4002000_1.length co75 : Value).ownBlock ∧ some k_ ≠ (.slice Ao76 x4002001_1.length co76 : Value).ownBlock) (.slice Ao83 x8_1.length co83) x8_1) ∧ (w'.heap[gb4001]? = some (.cells #[.slice Ao75 x4002000_1.length co75, .slice Ao76 x4002001_1.length co76] 24 (0, 0))) ∧ (Below w.heap.size w w')) ?_ ?_
                            rotate_left
                            · intro hJ13_18_26
                              refine join_ (σ := Unit) 9 #[true, true, true, true, true, true, true, true, true, true, true, true, true, true, true, true, true, true, true, true, true, true, true, false, false, true, false, false, false, false, false, false, false] (fun s_ => [(77, .string (strOfNums t4032)), (82, .string (strOfNums y4035)), (83, .bool true), (84, .bool true), (85, .bool true), (86, .agg #[.slice Ao75 x4002000_1.length co75, .slice Ao76 x4002001_1.length co76]), (89, .slice Ao83 x8_1.length co83)]) (fun s_ w' => (w'.cell? ⟨gb4001, 0, none⟩ = some (.slice Ao75 x4002000_1.length co75) ∧ w'.cell? ⟨gb4001, 1, none⟩ = some (.slice Ao76 x4002001_1.length co76)) ∧ (Kd.R (Kd.int .u8) 5 w' w.heap.size (fun k_ => (w.heap.size ≤ k_) ∧ some k_ ≠ (.slice Ao79 t4029.length co79 : Value).ownBlock ∧ some k_ ≠ (.slice Ao82 t4032.length co82 : Value).ownBlock ∧ some k_ ≠ (.slice Ao75 x4002000_1.length co75 : Value).ownBlock ∧ some k_ ≠ (.slice Ao76 x4002001_1.length co76 : Value).ownBlock ∧ some k_ ≠ (.slice Ao83 x8_1.length co83 : Value).ownBlock) (.slice Ao78 t4026.length co78) t4026) ∧ (Kd.R (Kd.int .u8) 5 w' w.heap.size (fun k_ => (w.heap.size ≤ k_) ∧ some k_ ≠ (.slice Ao78 t4026.length co78 : Value).ownBlock ∧ some k_ ≠ (.slice Ao82 t4032.length co82 : Value).ownBlock ∧ some k_ ≠ (.slice Ao75 x4002000_1.length co75 : Value).ownBlock ∧ some k_ ≠ (.slice Ao76 x4002001_1.length co76 : Value).ownBlock ∧ some k_ ≠ (.slice Ao83 x8_1.length co83 : Value).ownBlock) (.slice Ao79 t4029.length co79) t4029) ∧ (Kd.R (Kd.int .u8) 5 w' w.heap.size (fun k_ => (w.heap.size ≤ k_) ∧ some k_ ≠ (.slice Ao78 t4026.length co78 : Value).ownBlock ∧ some k_ ≠ (.slice Ao79 t4029.length co79 : Value).ownBlock ∧ some k_ ≠ (.slice Ao75 x4002000_1.length co75 : Value).ownBlock ∧ some k_ ≠ (.slice Ao76 x4002001_1.length co76 : Value).ownBlock ∧ some k_ ≠ (.slice Ao83 x8_1.length co83 : Value).ownBlock) (.slice Ao82 t4032.length co82) t4032) ∧ (Kd.V (Kd.slice 5 (Kd.int .u8)) 22 w' w.heap.size (fun k_ => (P0_ k_ ∨ w.heap.size ≤ k_) ∧ some k_ ≠ (.slice Ao78 t4026.length co78 : Value).ownBlock ∧ some k_ ≠ (.slice Ao79 t4029.length co79 : Value).ownBlock ∧ some k_ ≠ (.slice Ao82 t4032.length co82 : Value).ownBlock ∧ some k_ ≠ (.slice Ao75 x4002000_1.length co75 : Value).ownBlock ∧ some k_ ≠ (.slice Ao76 x4002001_1.length co76 : Value).ownBlock ∧ some k_ ≠ (.slice Ao83 x8_1.length co83 : Value).ownBlock ∧ k_ ≠ gb4001) (.slice A0 l0.length c0) l0) ∧ (Kd.R (Kd.int .u8) 5 w' w.heap.size (fun k_ => (w.heap.size ≤ k_) ∧ some k_ ≠ (.slice Ao78 t4026.length co78 : Value).ownBlock ∧ some k_ ≠ (.slice Ao79 t4029.length co79 : Value).ownBlock ∧ some k_ ≠ (.slice Ao82 t4032.length co82 : Value).ownBlock ∧ some k_ ≠ (.slice Ao76 x4002001_1.length co76 : Value).ownBlock ∧ some k_ ≠ (.slice Ao83 x8_1.length co83 : Value).ownBlock) (.slice Ao75 x4002000_1.length co75) x4002000_1) ∧ (Kd.R (Kd.int .u8) 5 w' w.heap.size (fun k_ => (w.heap.size ≤ k_) ∧ some k_ ≠ (.slice Ao78 t4026.length co78 : Value).ownBlock ∧ some k_ ≠ (.slice Ao79 t4029.length co79 : Value).ownBlock ∧ some k_ ≠ (.slice Ao82 t4032.length co82 : Value).ownBlock ∧ some k_ ≠ (.slice Ao75 x4002000_1.length co75 : Value).ownBlock ∧ some k_ ≠ (.slice Ao83 x8_1.length co83 : Value).ownBlock) (.slice Ao76 x4002001_1.length co76) x4002001_1) ∧ (Kd.R (Kd.int .u8) 5 w' w.heap.size (fun k_ => (w.heap.size ≤ k_) ∧ some k_ ≠ (.slice Ao78 t4026.length co78 : Value).ownBlock ∧ some k_ ≠ (.slice Ao79 t4029.length co79 : Value).ownBlock ∧ some k_ ≠ (.slice Ao82 t4032.length co82 : Value).ownBlock ∧ some k_ ≠ (.slice Ao75 x4002000_1.length co75 : Value).ownBlock ∧ some k_ ≠ (.slice Ao76 x4002001_1.length co76 : Value).ownBlock) (.slice Ao83 x8_1.length co83) x8_1) ∧ (w'.heap[gb4001]? = some (.cells #[.slice Ao75 x4002000_1.length co75, .slice Ao76 x4002001_1.length co76] 24 (0, 0))) ∧ (Below w.heap.size w w')) ?_ ?_
                              rotate_left
                              · intro hJ13_18
                                refine join_ (σ := Unit) 15 #[true, true, true, true, true, true, true, true, true, true, true, true, true, true, true, true, true, true, false, false, false, false, false, false, false, false, false, false, false, false, false, false, false] (fun s_ => [(77, .string (strOfNums t4032))]) (fun s_ w' => (w'.cell? ⟨gb4001, 0, none⟩ = some (.slice Ao75 x4002000_1.length co75) ∧ w'.cell? ⟨gb4001, 1, none⟩ = some (.slice Ao76 x4002001_1.length co76)) ∧ (Kd.R (Kd.int .u8) 5 w' w.heap.size (fun k_ => (w.heap.size ≤ k_) ∧ some k_ ≠ (.slice Ao79 t4029.length co79 : Value).ownBlock ∧ some k_ ≠ (.slice Ao82 t4032.length co82 : Value).ownBlock ∧ some k_ ≠ (.slice Ao75 x4002000_1.length co75 : Value).ownBlock ∧ some k_ ≠ (.slice Ao76 x4002001_1.length co76 : Value).ownBlock ∧ some k_ ≠ (.slice Ao83 x8_1.length co83 : Value).ownBlock) (.slice Ao78 t4026.length co78) t4026) ∧ (Kd.R (Kd.int .u8) 5 w' w.heap.size (fun k_ => (w.heap.size ≤ k_) ∧ some k_ ≠ (.slice Ao78 t4026.length co78 : Value).ownBlock ∧ some k_ ≠ (.slice Ao82 t4032.length co82 : Value).ownBlock ∧ some k_ ≠ (.slice Ao75 x4002000_1.length co75 : Value).ownBlock ∧ some k_ ≠ (.slice Ao76 x4002001_1.length co76 : Value).ownBlock ∧ some k_ ≠ (.slice Ao83 x8_1.length co83 : Value).ownBlock) (.slice Ao79 t4029.length co79) t4029) ∧ (Kd.R (Kd.int .u8) 5 w' w.heap.size (fun k_ => (w.heap.size ≤ k_) ∧ some k_ ≠ (.slice Ao78 t4026.length co78 : Value).ownBlock ∧ some k_ ≠ (.slice Ao79 t4029.length co79 : Value).ownBlock ∧ some k_ ≠ (.slice Ao75 x4002000_1.length co75 : Value).ownBlock ∧ some k_ ≠ (.slice Ao76 x4002001_1.length co76 : Value).ownBlock ∧ some k_ ≠ (.slice Ao83 x8_1.length co83 : Value).ownBlock) (.slice Ao82 t4032.length co82) t4032) ∧ (Kd.V (Kd.slice 5 (Kd.int .u8)) 22 w' w.heap.size (fun k_ => (P0_ k_ ∨ w.heap.size ≤ k_) ∧ some k_ ≠ (.slice Ao78 t4026.length co78 : Value).ownBlock ∧ some k_ ≠ (.slice Ao79 t4029.length co79 : Value).ownBlock ∧ some k_ ≠ (.slice Ao82 t4032.length co82 : Value).ownBlock ∧ some k_ ≠ (.slice Ao75 x4002000_1.length co75 : Value).ownBlock ∧ some k_ ≠ (.slice Ao76 x4002001_1.length co76 : Value).ownBlock ∧ some k_ ≠ (.slice Ao83 x8_1.length co83 : Value).ownBlock ∧ k_ ≠ gb4001) (.slice A0 l0.length c0) l0) ∧ (Kd.R (Kd.int .u8) 5 w' w.heap.size (fun k_ => (w.heap.size ≤ k_) ∧ some k_ ≠ (.slice Ao78 t4026.length co78 : Value).ownBlock ∧ some k_ ≠ (.slice Ao79 t4029.length co79 : Value).ownBlock ∧ some k_ ≠ (.slice Ao82 t4032.length co82 : Value).ownBlock ∧ some k_ ≠ (.slice Ao76 x4002001_1.length co76 : Value).ownBlock ∧ some k_ ≠ (.slice Ao83 x8_1.length co83 : Value).ownBlock) (.slice Ao75 x4002000_1.length co75) x4002000_1) ∧ (Kd.R (Kd.int .u8) 5 w' w.heap.size (fun k_ => (w.heap.size ≤ k_) ∧ some k_ ≠ (.slice Ao78 t4026.length co78 : Value).ownBlock ∧ some k_ ≠ (.slice Ao79 t4029.length co79 : Value).ownBlock ∧ some k_ ≠ (.slice Ao82 t4032.length co82 : Value).ownBlock ∧ some k_ ≠ (.slice Ao75 x4002000_1.length co75 : Value).ownBlock ∧ some k_ ≠ (.slice Ao83 x8_1.length co83 : Value).ownBlock) (.slice Ao76 x4002001_1.length co76) x4002001_1) ∧ (Kd.R (Kd.int .u8) 5 w' w.heap.size (fun k_ => (w.heap.size ≤ k_) ∧ some k_ ≠ (.slice Ao78 t4026.length co78 : Value).ownBlock ∧ some k_ ≠ (.slice Ao79 t4029.length co79 : Value).ownBlock ∧ some k_ ≠ (.slice Ao82 t4032.length co82 : Value).ownBlock ∧ some k_ ≠ (.slice Ao75 x4002000_1.length co75 : Value).ownBlock ∧ some k_ ≠ (.slice Ao76 x4002001_1.length co76 : Value).ownBlock) (.slice Ao83 x8_1.length co83) x8_1) ∧ (w'.heap[gb4001]? = some (.cells #[.slice Ao75 x4002000_1.length co75, .slice Ao76 x4002001_1.length co76] 24 (0, 0))) ∧ (Below w.heap.size w w')) ?_ ?_
                                rotate_left
                                · intro hJ13
                                  refine join_ (σ := Unit) 15 #[true, true, true, true, true, true, true, true, true, true, true, true, true, false, true, true, true, true, true, false, false, false, false, false, false, false, false, false, false, false, false, false, false] (fun s_ => [(82, .string (strOfNums y4035))]) (fun s_ w' => (w'.cell? ⟨gb4001, 0, none⟩ = some (.slice Ao75 x4002000_1.length co75) ∧ w'.cell? ⟨gb4001, 1, none⟩ = some (.slice Ao76 x4002001_1.length co76)) ∧ (Kd.R (Kd.int .u8) 5 w' w.heap.size (fun k_ => (w.heap.size ≤ k_) ∧ some k_ ≠ (.slice Ao79 t4029.length co79 : Value).ownBlock ∧ some k_ ≠ (.slice Ao82 t4032.length co82 : Value).ownBlock ∧ some k_ ≠ (.slice Ao75 x4002000_1.length co75 : Value).ownBlock ∧ some k_ ≠ (.slice Ao76 x4002001_1.length co76 : Value).ownBlock ∧ some k_ ≠ (.slice Ao83 x8_1.length co83 : Value).ownBlock) (.slice Ao78 t4026.length co78) t4026) ∧ (Kd.R (Kd.int .u8) 5 w' w.heap.size (fun k_ => (w.heap.size ≤ k_) ∧ some k_ ≠ (.slice Ao78 t4026.length co78 : Value).ownBlock ∧ some k_ ≠ (.slice Ao82 t4032.length co82 : Value).ownBlock ∧ some k_ ≠ (.slice Ao75 x4002000_1.length co75 : Value).ownBlock ∧ some k_ ≠ (.slice Ao76 x4002001_1.length co76 : Value).ownBlock ∧ some k_ ≠ (.slice Ao83 x8_1.length co83 : Value).ownBlock) (.slice Ao79 t4029.length co79) t4029) ∧ (Kd.R (Kd.int .u8) 5 w' w.heap.size (fun k_ => (w.heap.size ≤ k_) ∧ some k_ ≠ (.slice Ao78 t4026.length co78 : Value).ownBlock ∧ some k_ ≠ (.slice Ao79 t4029.length co79 : Value).ownBlock ∧ some k_ ≠ (.slice Ao75 x4002000_1.length co75 : Value).ownBlock ∧ some k_ ≠ (.slice Ao76 x4002001_1.length co76 : Value).ownBlock ∧ some k_ ≠ (.slice Ao83 x8_1.length co83 : Value).ownBlock) (.slice Ao82 t4032.length co82) t4032) ∧ (Kd.V (Kd.slice 5 (Kd.int .u8)) 22 w' w.heap.size (fun k_ => (P0_ k_ ∨ w.heap.size ≤ k_) ∧ some k_ ≠ (.slice Ao78 t4026.length co78 : Value).ownBlock ∧ some k_ ≠ (.slice Ao79 t4029.length co79 : Value).ownBlock ∧ some k_ ≠ (.slice Ao82 t4032.length co82 : Value).ownBlock ∧ some k_ ≠ (.slice Ao75 x4002000_1.length co75 : Value).ownBlock ∧ some k_ ≠ (.slice Ao76 x4002001_1.length co76 : Value).ownBlock ∧ some k_ ≠ (.slice Ao83 x8_1.length co83 : Value).ownBlock ∧ k_ ≠ gb4001) (.slice A0 l0.length c0) l0) ∧ (Kd.R (Kd.int .u8) 5 w' w.heap.size (fun k_ => (w.heap.size ≤ k_) ∧ some k_ ≠ (.slice Ao78 t4026.length co78 : Value).ownBlock ∧ some k_ ≠ (.slice Ao79 t4029.length co79 : Value).ownBlock ∧ some k_ ≠ (.slice Ao82 t4032.length co82 : Value).ownBlock ∧ some k_ ≠ (.slice Ao76 x4002001_1.length co76 : Value).ownBlock ∧ some k_ ≠ (.slice Ao83 x8_1.length co83 : Value).ownBlock) (.slice Ao75 x4002000_1.length co75) x4002000_1) ∧ (Kd.R (Kd.int .u8) 5 w' w.heap.size (fun k_ => (w.heap.size ≤ k_) ∧ some k_ ≠ (.slice Ao78 t4026.length co78 : Value).ownBlock ∧ some k_ ≠ (.slice Ao79 t4029.length co79 : Value).ownBlock ∧ some k_ ≠ (.slice Ao82 t4032.length co82 : Value).ownBlock ∧ some k_ ≠ (.slice Ao75 x4002000_1.length co75 : Value).ownBlock ∧ some k_ ≠ (.slice Ao83 x8_1.length co83 : Value).ownBlock) (.slice Ao76 x4002001_1.length co76) x4002001_1) ∧ (Kd.R (Kd.int .u8) 5 w' w.heap.size (fun k_ => (w.heap.size ≤ k_) ∧ some k_ ≠ (.slice Ao78 t4026.length co78 : Value).ownBlock ∧ some k_ ≠ (.slice Ao79 t4029.length co79 : Value).ownBlock ∧ some k_ ≠ (.slice Ao82 t4032.length co82 : Value).ownBlock ∧ some k_ ≠ (.slice Ao75 x4002000_1.length co75 : Value).ownBlock ∧ some k_ ≠ (.slice Ao76 x4002001_1.length co76 : Value).ownBlock) (.slice Ao83 x8_1.length co83) x8_1) ∧ (w'.heap[gb4001]? = some (.cells #[.slice Ao75 x4002000_1.length co75, .slice Ao76 x4002001_1.length co76] 24 (0, 0))) ∧ (Below w.heap.size w w')) ?_ ?_
                                  rotate_left
                                  · intro hJ18
                                    refine two_ (i := 13) (j := 18) (Ni := some 77) (Nj := some 82) #[true, true, true, true, true, true, true, true, true, true, true, true, true, true, true, true, true, true, false, false, false, false, false, false, false, false, false, false, false, false, false, false, false] #[true, true, true, true, true, true, true, true, true, true, true, true, true, false, true, true, true, true, true, false, false, false, false, false, false, false, false, false, false, false, false, false, false] rfl rfl rfl rfl (two_of HT_.out (by kernel_rfl)) (by decide) (by decide) (fun K hK => ?_) (fun K hK => ?_)
                                    · skip
                                      have hcv85 := own_string (P := Try.prog) Try.underlying22 Try.underlying5 Try.underlying9 (Kd.own_of_R HO4034.out)
                                      refine value_ (w1 := ?_) (v := ?_) (by rfl) rfl ?_ ?_
                                      rotate_left 2
                                      · go_simp
                                        constructor
                                        · rfl
                                        · rfl
                                      clear hcv85
                                      refine hK.out _ _ ⟨(blk_cell BK4001.out 0).trans rfl, (blk_cell BK4001.out 1).trans rfl⟩ (fun hHeld => ?_)
                                      clear hK K
                                      refine norm_ (a' := ?_) ?_ ?_
                                      rotate_left
                                      · show Act.put _ (some 77) _ = _
                                        simp only [Act.put, List.setIfInBounds_toArray, List.set_cons_zero, List.set_cons_succ, i64_w, i32_w]
                                        rfl
                                      exact norm_ (by first | (simp only [putAll, Act.put, List.setIfInBounds_toArray, List.set_cons_zero, List.set_cons_succ]; done) | (simp only [putAll, Act.put, List.setIfInBounds_toArray, List.set_cons_zero, List.set_cons_succ]; rfl)) (hJ13 () _ ⟨hHeld, (Kd.R_ext (Kd.R_mono HO4028.out (fun _ hk => ⟨hk.1.1.1.1.1, ⟨hk.1.1.1.1.2, ⟨hk.2, ⟨hk.1.1.2, ⟨hk.1.2, hk.1.1.1.2⟩⟩⟩⟩⟩))), (Kd.R_ext (Kd.R_mono HO4031.out (fun _ hk => ⟨hk.1.1.1.1.1, ⟨hk.1.1.1.1.2, ⟨hk.2, ⟨hk.1.1.2, ⟨hk.1.2, hk.1.1.1.2⟩⟩⟩⟩⟩))), (Kd.R_ext (Kd.R_mono HO4034.out (fun _ hk => ⟨hk.1.1.1.1.1.1, ⟨hk.1.2, ⟨hk.2, ⟨hk.1.1.1.2, ⟨hk.1.1.2, hk.1.1.1.1.2⟩⟩⟩⟩⟩))), (Kd.V_ext (Kd.V_mono HO_0.out (fun _ hk => ⟨hk.1.1.1.1, ⟨hk.1.1.2, ⟨hk.1.2, ⟨hk.2, ⟨hk.1.1.1.2.2.1, ⟨hk.1.1.1.2.2.2.1, ⟨hk.1.1.1.2.1, hk.1.1.1.2.2.2.2⟩⟩⟩⟩⟩⟩⟩))), (Kd.R_ext (Kd.R_mono HO_4002000.out (fun _ hk => ⟨hk.1.1.1.1, ⟨hk.1.1.2, ⟨hk.1.2, ⟨hk.2, ⟨hk.1.1.1.2.2, hk.1.1.1.2.1⟩⟩⟩⟩⟩))), (Kd.R_ext (Kd.R_mono HO_4002001.out (fun _ hk => ⟨hk.1.1.1.1, ⟨hk.1.1.2, ⟨hk.1.2, ⟨hk.2, ⟨hk.1.1.1.2.2, hk.1.1.1.2.1⟩⟩⟩⟩⟩))), (Kd.R_ext (Kd.R_mono HO_8.out (fun _ hk => ⟨hk.1.1.1.1, ⟨hk.1.1.2, ⟨hk.1.2, ⟨hk.2, ⟨hk.1.1.1.2.1, hk.1.1.1.2.2⟩⟩⟩⟩⟩))), (blk_ext BK4001.out), (below_extB HB.out)⟩)
                                    · skip
                                      have hcv85 := Kd.C_string (P := Try.prog) (A := Ao83) (c := co83) Try.underlying22 Try.underlying5 Try.underlying9 (by repeat (first | (with_reducible exact HR4038.out) | (with_reducible refine Kd.C_alloc ?_ _) | (with_reducible refine Kd.C_drewN ?_ _) | (with_reducible refine Kd.C_drew ?_) | exact HR4038.out))
                                      refine value_ (w1 := ?_) (v := ?_) (by rfl) rfl ?_ ?_
                                      rotate_left 2
                                      · go_simp
                                        constructor
                                        · rfl
                                        · rfl
                                      clear hcv85
                                      refine hK.out _ _ ⟨(blk_cell BK4001.out 0).trans rfl, (blk_cell BK4001.out 1).trans rfl⟩ (fun hHeld => ?_)
                                      clear hK K
                                      refine norm_ (a' := ?_) ?_ ?_
                                      rotate_left
                                      · show Act.put _ (some 82) _ = _
                                        simp only [Act.put, List.setIfInBounds_toArray, List.set_cons_zero, List.set_cons_succ, i64_w, i32_w]
                                        rfl
                                      exact norm_ (by first | (simp only [putAll, Act.put, List.setIfInBounds_toArray, List.set_cons_zero, List.set_cons_succ]; done) | (simp only [putAll, Act.put, List.setIfInBounds_toArray, List.set_cons_zero, List.set_cons_succ]; rfl)) (hJ18 () _ ⟨hHeld, (Kd.R_ext (Kd.R_mono HO4028.out (fun _ hk => ⟨hk.1.1.1.1.1, ⟨hk.1.1.1.1.2, ⟨hk.2, ⟨hk.1.1.2, ⟨hk.1.2, hk.1.1.1.2⟩⟩⟩⟩⟩))), (Kd.R_ext (Kd.R_mono HO4031.out (fun _ hk => ⟨hk.1.1.1.1.1, ⟨hk.1.1.1.1.2, ⟨hk.2, ⟨hk.1.1.2, ⟨hk.1.2, hk.1.1.1.2⟩⟩⟩⟩⟩))), (Kd.R_ext (Kd.R_mono HO4034.out (fun _ hk => ⟨hk.1.1.1.1.1.1, ⟨hk.1.2, ⟨hk.2, ⟨hk.1.1.1.2, ⟨hk.1.1.2, hk.1.1.1.1.2⟩⟩⟩⟩⟩))), (Kd.V_ext (Kd.V_mono HO_0.out (fun _ hk => ⟨hk.1.1.1.1, ⟨hk.1.1.2, ⟨hk.1.2, ⟨hk.2, ⟨hk.1.1.1.2.2.1, ⟨hk.1.1.1.2.2.2.1, ⟨hk.1.1.1.2.1, hk.1.1.1.2.2.2.2⟩⟩⟩⟩⟩⟩⟩))), (Kd.R_ext (Kd.R_mono HO_4002000.out (fun _ hk => ⟨hk.1.1.1.1, ⟨hk.1.1.2, ⟨hk.1.2, ⟨hk.2, ⟨hk.1.1.1.2.2, hk.1.1.1.2.1⟩⟩⟩⟩⟩))), (Kd.R_ext (Kd.R_mono HO_4002001.out (fun _ hk => ⟨hk.1.1.1.1, ⟨hk.1.1.2, ⟨hk.1.2, ⟨hk.2, ⟨hk.1.1.1.2.2, hk.1.1.1.2.1⟩⟩⟩⟩⟩))), (Kd.R_ext (Kd.R_mono HO_8.out (fun _ hk => ⟨hk.1.1.1.1, ⟨hk.1.1.2, ⟨hk.1.2, ⟨hk.2, ⟨hk.1.1.1.2.1, hk.1.1.1.2.2⟩⟩⟩⟩⟩))), (blk_ext BK4001.out), (below_extB HB.out)⟩)
                                  · skip
                                    rintro _ w86 ⟨hS_, h0_, h1_, h2_, h3_, h4_, h5_, h6_, h7_, h8_⟩
                                    have n0_ : Aside0 (Kd.R (Kd.int .u8) 5 w86 w.heap.size (fun k_ => (w.heap.size ≤ k_) ∧ some k_ ≠ (.slice Ao79 t4029.length co79 : Value).ownBlock ∧ some k_ ≠ (.slice Ao82 t4032.length co82 : Value).ownBlock ∧ some k_ ≠ (.slice Ao75 x4002000_1.length co75 : Value).ownBlock ∧ some k_ ≠ (.slice Ao76 x4002001_1.length co76 : Value).ownBlock ∧ some k_ ≠ (.slice Ao83 x8_1.length co83 : Value).ownBlock) (.slice Ao78 t4026.length co78) t4026) := ⟨h0_⟩
                                    have n1_ : Aside0 (Kd.R (Kd.int .u8) 5 w86 w.heap.size (fun k_ => (w.heap.size ≤ k_) ∧ some k_ ≠ (.slice Ao78 t4026.length co78 : Value).ownBlock ∧ some k_ ≠ (.slice Ao82 t4032.length co82 : Value).ownBlock ∧ some k_ ≠ (.slice Ao75 x4002000_1.length co75 : Value).ownBlock ∧ some k_ ≠ (.slice Ao76 x4002001_1.length co76 : Value).ownBlock ∧ some k_ ≠ (.slice Ao83 x8_1.length co83 : Value).ownBlock) (.slice Ao79 t4029.length co79) t4029) := ⟨h1_⟩
                                    have n2_ : Aside0 (Kd.R (Kd.int .u8) 5 w86 w.heap.size (fun k_ => (w.heap.size ≤ k_) ∧ some k_ ≠ (.slice Ao78 t4026.length co78 : Value).ownBlock ∧ some k_ ≠ (.slice Ao79 t4029.length co79 : Value).ownBlock ∧ some k_ ≠ (.slice Ao75 x4002000_1.length co75 : Value).ownBlock ∧ some k_ ≠ (.slice Ao76 x4002001_1.length co76 : Value).ownBlock ∧ some k_ ≠ (.slice Ao83 x8_1.length co83 : Value).ownBlock) (.slice Ao82 t4032.length co82) t4032) := ⟨h2_⟩
                                    have n3_ : Aside0 (Kd.V (Kd.slice 5 (Kd.int .u8)) 22 w86 w.heap.size (fun k_ => (P0_ k_ ∨ w.heap.size ≤ k_) ∧ some k_ ≠ (.slice Ao78 t4026.length co78 : Value).ownBlock ∧ some k_ ≠ (.slice Ao79 t4029.length co79 : Value).ownBlock ∧ some k_ ≠ (.slice Ao82 t4032.length co82 : Value).ownBlock ∧ some k_ ≠ (.slice Ao75 x4002000_1.length co75 : Value).ownBlock ∧ some k_ ≠ (.slice Ao76 x4002001_1.length co76 : Value).ownBlock ∧ some k_ ≠ (.slice Ao83 x8_1.length co83 : Value).ownBlock ∧ k_ ≠ gb4001) (.slice A0 l0.length c0) l0) := ⟨h3_⟩
                                    have n4_ : Aside0 (Kd.R (Kd.int .u8) 5 w86 w.heap.size (fun k_ => (w.heap.size ≤ k_) ∧ some k_ ≠ (.slice Ao78 t4026.length co78 : Value).ownBlock ∧ some k_ ≠ (.slice Ao79 t4029.length co79 : Value).ownBlock ∧ some k_ ≠ (.slice Ao82 t4032.length co82 : Value).ownBlock ∧ some k_ ≠ (.slice Ao76 x4002001_1.length co76 : Value).ownBlock ∧ some k_ ≠ (.slice Ao83 x8_1.length co83 : Value).ownBlock) (.slice Ao75 x4002000_1.length co75) x4002000_1) := ⟨h4_⟩
                                    have n5_ : Aside0 (Kd.R (Kd.int .u8) 5 w86 w.heap.size (fun k_ => (w.heap.size ≤ k_) ∧ some k_ ≠ (.slice Ao78 t4026.length co78 : Value).ownBlock ∧ some k_ ≠ (.slice Ao79 t4029.length co79 : Value).ownBlock ∧ some k_ ≠ (.slice Ao82 t4032.length co82 : Value).ownBlock ∧ some k_ ≠ (.slice Ao75 x4002000_1.length co75 : Value).ownBlock ∧ some k_ ≠ (.slice Ao83 x8_1.length co83 : Value).ownBlock) (.slice Ao76 x4002001_1.length co76) x4002001_1) := ⟨h5_⟩
                                    have n6_ : Aside0 (Kd.R (Kd.int .u8) 5 w86 w.heap.size (fun k_ => (w.heap.size ≤ k_) ∧ some k_ ≠ (.slice Ao78 t4026.length co78 : Value).ownBlock ∧ some k_ ≠ (.slice Ao79 t4029.length co79 : Value).ownBlock ∧ some k_ ≠ (.slice Ao82 t4032.length co82 : Value).ownBlock ∧ some k_ ≠ (.slice Ao75 x4002000_1.length co75 : Value).ownBlock ∧ some k_ ≠ (.slice Ao76 x4002001_1.length co76 : Value).ownBlock) (.slice Ao83 x8_1.length co83) x8_1) := ⟨h6_⟩
                                    have n7_ : Aside0 (w86.heap[gb4001]? = some (.cells #[.slice Ao75 x4002000_1.length co75, .slice Ao76 x4002001_1.length co76] 24 (0, 0))) := ⟨h7_⟩
                                    have n8_ : Aside0 (Below w.heap.size w w86) := ⟨h8_⟩
                                    clear HO_0
                                    clear HO_8
                                    clear HO_4002000
                                    clear HO_4002001
                                    clear HO4028
                                    clear HO4031
                                    clear HO4034
                                    clear BK4001
                                    clear HB
                                    clear h0_ h1_ h2_ h3_ h4_ h5_ h6_ h7_ h8_
                                    have HO4028 := n0_
                                    have HO4031 := n1_
                                    have HO4034 := n2_
                                    have HO_0 := n3_
                                    have HO_4002000 := n4_
                                    have HO_4002001 := n5_
                                    have HO_8 := n6_
                                    have BK4001 := n7_
                                    have HB := n8_
                                    clear n0_ n1_ n2_ n3_ n4_ n5_ n6_ n7_ n8_
                                    have hHeld : w86.cell? ⟨gb4001, 0, none⟩ = some (.slice Ao75 x4002000_1.length co75) ∧ w86.cell? ⟨gb4001, 1, none⟩ = some (.slice Ao76 x4002001_1.length co76) := hS_
                                    refine norm_ (a' := ?_) ?_ ?_
                                    rotate_left
                                    · simp only [putAll, Act.put, List.setIfInBounds_toArray, List.set_cons_zero, List.set_cons_succ]
                                      rfl
                                    refine one_ (i := 13) (N := some 77) #[true, true, true, true, true, true, true, true, true, true, true, true, true, true, true, true, true, true, true, false, false, false, false, false, false, false, false, false, false, false, false, false, false] rfl rfl (one_of HT_.out (by kernel_rfl)) (by decide) (fun K hK => ?_)
                                    have hcv87 := own_string (P := Try.prog) Try.underlying22 Try.underlying5 Try.underlying9 (Kd.own_of_R HO4034.out)
                                    refine value_ (w1 := ?_) (v := ?_) (by rfl) rfl ?_ ?_
                                    rotate_left 2
                                    · go_simp
                                      constructor
                                      · rfl
                                      · rfl
                                    clear hcv87
                                    refine hK.out _ _ ⟨(blk_cell BK4001.out 0).trans rfl, (blk_cell BK4001.out 1).trans rfl⟩ (fun hHeld => ?_)
                                    clear hK K
                                    refine norm_ (a' := ?_) ?_ ?_
                                    rotate_left
                                    · show Act.put _ (some 77) _ = _
                                      simp only [Act.put, List.setIfInBounds_toArray, List.set_cons_zero, List.set_cons_succ, i64_w, i32_w]
                                      rfl
                                    refine pure_ (i := 19) (N := some 83) (v := ?_) (a' := ?_) #[true, true, true, true, true, true, true, true, true, true, true, true, true, true, true, true, true, true, true, true, false, false, false, false, false, false, false, false, false, false, false, false, false] rfl rfl (any_of HT_.out (by kernel_rfl)) (fun _ _ _ h => h) (Or.inl ⟨by rfl, ?_⟩) ?_ ?_
                                    rotate_left
                                    · intro w'
                                      go_simp
                                      with_reducible rfl
                                    rotate_left
                                    · simp only [Act.put, List.setIfInBounds_toArray, List.set_cons_zero, List.set_cons_succ, i64_w, i32_w]
                                      rfl
                                    refine pure_ (i := 20) (N := some 84) (v := ?_) (a' := ?_) #[true, true, true, true, true, true, true, true, true, true, true, true, true, true, true, true, true, true, true, true, true, false, false, false, false, false, false, false, false, false, false, false, false] rfl rfl (any_of HT_.out (by kernel_rfl)) (fun _ _ _ h => h) (Or.inl ⟨by rfl, ?_⟩) ?_ ?_
                                    rotate_left
                                    · intro w'
                                      go_simp
                                      with_reducible rfl
                                    rotate_left
                                    · simp only [Act.put, List.setIfInBounds_toArray, List.set_cons_zero, List.set_cons_succ, i64_w, i32_w]
                                      rfl
                                    refine pure_ (i := 21) (N := some 85) (v := ?_) (a' := ?_) #[true, true, true, true, true, true, true, true, true, true, true, true, true, true, true, true, true, true, true, true, true, true, false, false, false, false, false, false, false, false, false, false, false] rfl rfl (any_of HT_.out (by kernel_rfl)) (fun _ _ _ h => h) (Or.inl ⟨by rfl, ?_⟩) ?_ ?_
                                    rotate_left
                                    · intro w'
                                      go_simp
                                      with_reducible rfl
                                    rotate_left
                                    · simp only [Act.put, List.setIfInBounds_toArray, List.set_cons_zero, List.set_cons_succ, i64_w, i32_w]
                                      rfl
                                    refine take_ (i := 22) (N := some 86) (v := ?_) (a' := ?_) #[true, true, true, true, true, true, true, true, true, true, true, true, true, true, true, true, true, true, true, true, true, true, true, false, false, false, false, false, false, false, false, false, false] rfl rfl (take_ofW HT_.out HW_.out (by kernel_rfl)) (fun _ _ _ h => h) (Or.inl ⟨by rfl, ?_⟩) hHeld ?_ ?_
                                    rotate_left
                                    · rintro w' ⟨s0, s1⟩
                                      go_simp
                                      with_reducible rfl
                                    rotate_left
                                    · simp only [Act.put, List.setIfInBounds_toArray, List.set_cons_zero, List.set_cons_succ, i64_w, i32_w]
                                      rfl
                                    refine pure_ (i := 25) (N := some 89) (v := ?_) (a' := ?_) #[true, true, true, true, true, true, true, true, true, true, true, true, true, true, true, true, true, true, true, true, true, true, true, false, false, true, false, false, false, false, false, false, false] rfl rfl (any_of HT_.out (by kernel_rfl)) (fun _ _ _ h => h) (Or.inl ⟨by rfl, ?_⟩) ?_ ?_
                                    rotate_left
                                    · intro w'
                                      go_simp
                                      with_reducible rfl
                                    rotate_left
                                    · simp only [Act.put, List.setIfInBounds_toArray, List.set_cons_zero, List.set_cons_succ, i64_w, i32_w]
                                      rfl
                                    exact norm_ (by first | (simp only [putAll, Act.put, List.setIfInBounds_toArray, List.set_cons_zero, List.set_cons_succ]; done) | (simp only [putAll, Act.put, List.setIfInBounds_toArray, List.set_cons_zero, List.set_cons_succ]; rfl)) (hJ13_18 () _ ⟨hHeld, (Kd.R_ext HO4028.out), (Kd.R_ext HO4031.out), (Kd.R_ext HO4034.out), (Kd.V_ext HO_0.out), (Kd.R_ext HO_4002000.out), (Kd.R_ext HO_4002001.out), (Kd.R_ext HO_8.out), (blk_ext BK4001.out), (below_extB HB.out)⟩)
                                · skip
                                  rintro _ w86 ⟨hS_, h0_, h1_, h2_, h3_, h4_, h5_, h6_, h7_, h8_⟩
                                  have n0_ : Aside0 (Kd.R (Kd.int .u8) 5 w86 w.heap.size (fun k_ => (w.heap.size ≤ k_) ∧ some k_ ≠ (.slice Ao79 t4029.length co79 : Value).ownBlock ∧ some k_ ≠ (.slice Ao82 t4032.length co82 : Value).ownBlock ∧ some k_ ≠ (.slice Ao75 x4002000_1.length co75 : Value).ownBlock ∧ some k_ ≠ (.slice Ao76 x4002001_1.length co76 : Value).ownBlock ∧ some k_ ≠ (.slice Ao83 x8_1.length co83 : Value).ownBlock) (.slice Ao78 t4026.length co78) t4026) := ⟨h0_⟩
                                  have n1_ : Aside0 (Kd.R (Kd.int .u8) 5 w86 w.heap.size (fun k_ => (w.heap.size ≤ k_) ∧ some k_ ≠ (.slice Ao78 t4026.length co78 : Value).ownBlock ∧ some k_ ≠ (.slice Ao82 t4032.length co82 : Value).ownBlock ∧ some k_ ≠ (.slice Ao75 x4002000_1.length co75 : Value).ownBlock ∧ some k_ ≠ (.slice Ao76 x4002001_1.length co76 : Value).ownBlock ∧ some k_ ≠ (.slice Ao83 x8_1.length co83 : Value).ownBlock) (.slice Ao79 t4029.length co79) t4029) := ⟨h1_⟩
                                  have n2_ : Aside0 (Kd.R (Kd.int .u8) 5 w86 w.heap.size (fun k_ => (w.heap.size ≤ k_) ∧ some k_ ≠ (.slice Ao78 t4026.length co78 : Value).ownBlock ∧ some k_ ≠ (.slice Ao79 t4029.length co79 : Value).ownBlock ∧ some k_ ≠ (.slice Ao75 x4002000_1.length co75 : Value).ownBlock ∧ some k_ ≠ (.slice Ao76 x4002001_1.length co76 : Value).ownBlock ∧ some k_ ≠ (.slice Ao83 x8_1.length co83 : Value).ownBlock) (.slice Ao82 t4032.length co82) t4032) := ⟨h2_⟩
                                  have n3_ : Aside0 (Kd.V (Kd.slice 5 (Kd.int .u8)) 22 w86 w.heap.size (fun k_ => (P0_ k_ ∨ w.heap.size ≤ k_) ∧ some k_ ≠ (.slice Ao78 t4026.length co78 : Value).ownBlock ∧ some k_ ≠ (.slice Ao79 t4029.length co79 : Value).ownBlock ∧ some k_ ≠ (.slice Ao82 t4032.length co82 : Value).ownBlock ∧ some k_ ≠ (.slice Ao75 x4002000_1.length co75 : Value).ownBlock ∧ some k_ ≠ (.slice Ao76 x4002001_1.length co76 : Value).ownBlock ∧ some k_ ≠ (.slice Ao83 x8_1.length co83 : Value).ownBlock ∧ k_ ≠ gb4001) (.slice A0 l0.length c0) l0) := ⟨h3_⟩
                                  have n4_ : Aside0 (Kd.R (Kd.int .u8) 5 w86 w.heap.size (fun k_ => (w.heap.size ≤ k_) ∧ some k_ ≠ (.slice Ao78 t4026.length co78 : Value).ownBlock ∧ some k_ ≠ (.slice Ao79 t4029.length co79 : Value).ownBlock ∧ some k_ ≠ (.slice Ao82 t4032.length co82 : Value).ownBlock ∧ some k_ ≠ (.slice Ao76 x4002001_1.length co76 : Value).ownBlock ∧ some k_ ≠ (.slice Ao83 x8_1.length co83 : Value).ownBlock) (.slice Ao75 x4002000_1.length co75) x4002000_1) := ⟨h4_⟩
                                  have n5_ : Aside0 (Kd.R (Kd.int .u8) 5 w86 w.heap.size (fun k_ => (w.heap.size ≤ k_) ∧ some k_ ≠ (.slice Ao78 t4026.length co78 : Value).ownBlock ∧ some k_ ≠ (.slice Ao79 t4029.length co79 : Value).ownBlock ∧ some k_ ≠ (.slice Ao82 t4032.length co82 : Value).ownBlock ∧ some k_ ≠ (.slice Ao75 x4002000_1.length co75 : Value).ownBlock ∧ some k_ ≠ (.slice Ao83 x8_1.length co83 : Value).ownBlock) (.slice Ao76 x4002001_1.length co76) x4002001_1) := ⟨h5_⟩
                                  have n6_ : Aside0 (Kd.R (Kd.int .u8) 5 w86 w.heap.size (fun k_ => (w.heap.size ≤ k_) ∧ some k_ ≠ (.slice Ao78 t4026.length co78 : Value).ownBlock ∧ some k_ ≠ (.slice Ao79 t4029.length co79 : Value).ownBlock ∧ some k_ ≠ (.slice Ao82 t4032.length co82 : Value).ownBlock ∧ some k_ ≠ (.slice Ao75 x4002000_1.length co75 : Value).ownBlock ∧ some k_ ≠ (.slice Ao76 x4002001_1.length co76 : Value).ownBlock) (.slice Ao83 x8_1.length co83) x8_1) := ⟨h6_⟩
                                  have n7_ : Aside0 (w86.heap[gb4001]? = some (.cells #[.slice Ao75 x4002000_1.length co75, .slice Ao76 x4002001_1.length co76] 24 (0, 0))) := ⟨h7_⟩
                                  have n8_ : Aside0 (Below w.heap.size w w86) := ⟨h8_⟩
                                  clear HO_0
                                  clear HO_8
                                  clear HO_4002000
                                  clear HO_4002001
                                  clear HO4028
                                  clear HO4031
                                  clear HO4034
                                  clear BK4001
                                  clear HB
                                  clear h0_ h1_ h2_ h3_ h4_ h5_ h6_ h7_ h8_
                                  have HO4028 := n0_
                                  have HO4031 := n1_
                                  have HO4034 := n2_
                                  have HO_0 := n3_
                                  have HO_4002000 := n4_
                                  have HO_4002001 := n5_
                                  have HO_8 := n6_
                                  have BK4001 := n7_
                                  have HB := n8_
                                  clear n0_ n1_ n2_ n3_ n4_ n5_ n6_ n7_ n8_
                                  have hHeld : w86.cell? ⟨gb4001, 0, none⟩ = some (.slice Ao75 x4002000_1.length co75) ∧ w86.cell? ⟨gb4001, 1, none⟩ = some (.slice Ao76 x4002001_1.length co76) := hS_
                                  refine norm_ (a' := ?_) ?_ ?_
                                  rotate_left
                                  · simp only [putAll, Act.put, List.setIfInBounds_toArray, List.set_cons_zero, List.set_cons_succ]
                                    rfl
                                  refine one_ (i := 18) (N := some 82) #[true, true, true, true, true, true, true, true, true, true, true, true, true, true, true, true, true, true, true, false, false, false, false, false, false, false, false, false, false, false, false, false, false] rfl rfl (one_of HT_.out (by kernel_rfl)) (by decide) (fun K hK => ?_)
                                  have hcv87 := Kd.C_string (P := Try.prog) (A := Ao83) (c := co83) Try.underlying22 Try.underlying5 Try.underlying9 (show Kd.C (Kd.int .u8) _ Ao83 y4035.length y4035 from by have h_ := Kd.C_take (m := ((t4032.length : Int) : Int).toNat) (Kd.R_reads' (HO_8.out)).2.2 (by have q_ : ((t4032.length : Int) : Int) ≤ ((x8_1.length : Int) : Int) := of_decide_eq_true (by first | (with_reducible assumption) | assumption); omega); rw [← Ny4035.out] at h_; exact h_)
                                  refine value_ (w1 := ?_) (v := ?_) (by rfl) rfl ?_ ?_
                                  rotate_left 2
                                  · go_simp
                                    constructor
                                    · rfl
                                    · rfl
                                  clear hcv87
                                  refine hK.out _ _ ⟨(blk_cell BK4001.out 0).trans rfl, (blk_cell BK4001.out 1).trans rfl⟩ (fun hHeld => ?_)
                                  clear hK K
                                  refine norm_ (a' := ?_) ?_ ?_
                                  rotate_left
                                  · show Act.put _ (some 82) _ = _
                                    simp only [Act.put, List.setIfInBounds_toArray, List.set_cons_zero, List.set_cons_succ, i64_w, i32_w]
                                    rfl
                                  refine pure_ (i := 19) (N := some 83) (v := ?_) (a' := ?_) #[true, true, true, true, true, true, true, true, true, true, true, true, true, true, true, true, true, true, true, true, false, false, false, false, false, false, false, false, false, false, false, false, false] rfl rfl (any_of HT_.out (by kernel_rfl)) (fun _ _ _ h => h) (Or.inl ⟨by rfl, ?_⟩) ?_ ?_
                                  rotate_left
                                  · intro w'
                                    go_simp
                                    with_reducible rfl
                                  rotate_left
                                  · simp only [Act.put, List.setIfInBounds_toArray, List.set_cons_zero, List.set_cons_succ, i64_w, i32_w]
                                    rfl
                                  refine pure_ (i := 20) (N := some 84) (v := ?_) (a' := ?_) #[true, true, true, true, true, true, true, true, true, true, true, true, true, true, true, true, true, true, true, true, true, false, false, false, false, false, false, false, false, false, false, false, false] rfl rfl (any_of HT_.out (by kernel_rfl)) (fun _ _ _ h => h) (Or.inl ⟨by rfl, ?_⟩) ?_ ?_
                                  rotate_left
                                  · intro w'
                                    go_simp
                                    with_reducible rfl
                                  rotate_left
                                  · simp only [Act.put, List.setIfInBounds_toArray, List.set_cons_zero, List.set_cons_succ, i64_w, i32_w]
                                    rfl
                                  refine pure_ (i := 21) (N := some 85) (v := ?_) (a' := ?_) #[true, true, true, true, true, true, true, true, true, true, true, true, true, true, true, true, true, true, true, true, true, true, false, false, false, false, false, false, false, false, false, false, false] rfl rfl (any_of HT_.out (by kernel_rfl)) (fun _ _ _ h => h) (Or.inl ⟨by rfl, ?_⟩) ?_ ?_
                                  rotate_left
                                  · intro w'
                                    go_simp
                                    with_reducible rfl
                                  rotate_left
                                  · simp only [Act.put, List.setIfInBounds_toArray, List.set_cons_zero, List.set_cons_succ, i64_w, i32_w]
                                    rfl
                                  refine take_ (i := 22) (N := some 86) (v := ?_) (a' := ?_) #[true, true, true, true, true, true, true, true, true, true, true, true, true, true, true, true, true, true, true, true, true, true, true, false, false, false, false, false, false, false, false, false, false] rfl rfl (take_ofW HT_.out HW_.out (by kernel_rfl)) (fun _ _ _ h => h) (Or.inl ⟨by rfl, ?_⟩) hHeld ?_ ?_
                                  rotate_left
                                  · rintro w' ⟨s0, s1⟩
                                    go_simp
                                    with_reducible rfl
                                  rotate_left
                                  · simp only [Act.put, List.setIfInBounds_toArray, List.set_cons_zero, List.set_cons_succ, i64_w, i32_w]
                                    rfl
                                  refine pure_ (i := 25) (N := some 89) (v := ?_) (a' := ?_) #[true, true, true, true, true, true, true, true, true, true, true, true, true, true, true, true, true, true, true, true, true, true, true, false, false, true, false, false, false, false, false, false, false] rfl rfl (any_of HT_.out (by kernel_rfl)) (fun _ _ _ h => h) (Or.inl ⟨by rfl, ?_⟩) ?_ ?_
                                  rotate_left
                                  · intro w'
                                    go_simp
                                    with_reducible rfl
                                  rotate_left
                                  · simp only [Act.put, List.setIfInBounds_toArray, List.set_cons_zero, List.set_cons_succ, i64_w, i32_w]
                                    rfl
                                  exact norm_ (by first | (simp only [putAll, Act.put, List.setIfInBounds_toArray, List.set_cons_zero, List.set_cons_succ]; done) | (simp only [putAll, Act.put, List.setIfInBounds_toArray, List.set_cons_zero, List.set_cons_succ]; rfl)) (hJ13_18 () _ ⟨hHeld, (Kd.R_ext HO4028.out), (Kd.R_ext HO4031.out), (Kd.R_ext HO4034.out), (Kd.V_ext HO_0.out), (Kd.R_ext HO_4002000.out), (Kd.R_ext HO_4002001.out), (Kd.R_ext HO_8.out), (blk_ext BK4001.out), (below_extB HB.out)⟩)
                              · skip
                                rintro _ w87 ⟨hS_, h0_, h1_, h2_, h3_, h4_, h5_, h6_, h7_, h8_⟩
                                have n0_ : Aside0 (Kd.R (Kd.int .u8) 5 w87 w.heap.size (fun k_ => (w.heap.size ≤ k_) ∧ some k_ ≠ (.slice Ao79 t4029.length co79 : Value).ownBlock ∧ some k_ ≠ (.slice Ao82 t4032.length co82 : Value).ownBlock ∧ some k_ ≠ (.slice Ao75 x4002000_1.length co75 : Value).ownBlock ∧ some k_ ≠ (.slice Ao76 x4002001_1.length co76 : Value).ownBlock ∧ some k_ ≠ (.slice Ao83 x8_1.length co83 : Value).ownBlock) (.slice Ao78 t4026.length co78) t4026) := ⟨h0_⟩
                                have n1_ : Aside0 (Kd.R (Kd.int .u8) 5 w87 w.heap.size (fun k_ => (w.heap.size ≤ k_) ∧ some k_ ≠ (.slice Ao78 t4026.length co78 : Value).ownBlock ∧ some k_ ≠ (.slice Ao82 t4032.length co82 : Value).ownBlock ∧ some k_ ≠ (.slice Ao75 x4002000_1.length co75 : Value).ownBlock ∧ some k_ ≠ (.slice Ao76 x4002001_1.length co76 : Value).ownBlock ∧ some k_ ≠ (.slice Ao83 x8_1.length co83 : Value).ownBlock) (.slice Ao79 t4029.length co79) t4029) := ⟨h1_⟩
                                have n2_ : Aside0 (Kd.R (Kd.int .u8) 5 w87 w.heap.size (fun k_ => (w.heap.size ≤ k_) ∧ some k_ ≠ (.slice Ao78 t4026.length co78 : Value).ownBlock ∧ some k_ ≠ (.slice Ao79 t4029.length co79 : Value).ownBlock ∧ some k_ ≠ (.slice Ao75 x4002000_1.length co75 : Value).ownBlock ∧ some k_ ≠ (.slice Ao76 x4002001_1.length co76 : Value).ownBlock ∧ some k_ ≠ (.slice Ao83 x8_1.length co83 : Value).ownBlock) (.slice Ao82 t4032.length co82) t4032) := ⟨h2_⟩
                                have n3_ : Aside0 (Kd.V (Kd.slice 5 (Kd.int .u8)) 22 w87 w.heap.size (fun k_ => (P0_ k_ ∨ w.heap.size ≤ k_) ∧ some k_ ≠ (.slice Ao78 t4026.length co78 : Value).ownBlock ∧ some k_ ≠ (.slice Ao79 t4029.length co79 : Value).ownBlock ∧ some k_ ≠ (.slice Ao82 t4032.length co82 : Value).ownBlock ∧ some k_ ≠ (.slice Ao75 x4002000_1.length co75 : Value).ownBlock ∧ some k_ ≠ (.slice Ao76 x4002001_1.length co76 : Value).ownBlock ∧ some k_ ≠ (.slice Ao83 x8_1.length co83 : Value).ownBlock ∧ k_ ≠ gb4001) (.slice A0 l0.length c0) l0) := ⟨h3_⟩
                                have n4_ : Aside0 (Kd.R (Kd.int .u8) 5 w87 w.heap.size (fun k_ => (w.heap.size ≤ k_) ∧ some k_ ≠ (.slice Ao78 t4026.length co78 : Value).ownBlock ∧ some k_ ≠ (.slice Ao79 t4029.length co79 : Value).ownBlock ∧ some k_ ≠ (.slice Ao82 t4032.length co82 : Value).ownBlock ∧ some k_ ≠ (.slice Ao76 x4002001_1.length co76 : Value).ownBlock ∧ some k_ ≠ (.slice Ao83 x8_1.length co83 : Value).ownBlock) (.slice Ao75 x4002000_1.length co75) x4002000_1) := ⟨h4_⟩
                                have n5_ : Aside0 (Kd.R (Kd.int .u8) 5 w87 w.heap.size (fun k_ => (w.heap.size ≤ k_) ∧ some k_ ≠ (.slice Ao78 t4026.length co78 : Value).ownBlock ∧ some k_ ≠ (.slice Ao79 t4029.length co79 : Value).ownBlock ∧ some k_ ≠ (.slice Ao82 t4032.length co82 : Value).ownBlock ∧ some k_ ≠ (.slice Ao75 x4002000_1.length co75 : Value).ownBlock ∧ some k_ ≠ (.slice Ao83 x8_1.length co83 : Value).ownBlock) (.slice Ao76 x4002001_1.length co76) x4002001_1) := ⟨h5_⟩
                                have n6_ : Aside0 (Kd.R (Kd.int .u8) 5 w87 w.heap.size (fun k_ => (w.heap.size ≤ k_) ∧ some k_ ≠ (.slice Ao78 t4026.length co78 : Value).ownBlock ∧ some k_ ≠ (.slice Ao79 t4029.length co79 : Value).ownBlock ∧ some k_ ≠ (.slice Ao82 t4032.length co82 : Value).ownBlock ∧ some k_ ≠ (.slice Ao75 x4002000_1.length co75 : Value).ownBlock ∧ some k_ ≠ (.slice Ao76 x4002001_1.length co76 : Value).ownBlock) (.slice Ao83 x8_1.length co83) x8_1) := ⟨h6_⟩
                                have n7_ : Aside0 (w87.heap[gb4001]? = some (.cells #[.slice Ao75 x4002000_1.length co75, .slice Ao76 x4002001_1.length co76] 24 (0, 0))) := ⟨h7_⟩
                                have n8_ : Aside0 (Below w.heap.size w w87) := ⟨h8_⟩
                                clear HO_0
                                clear HO_8
                                clear HO_4002000
                                clear HO_4002001
                                clear HO4028
                                clear HO4031
                                clear HO4034
                                clear BK4001
                                clear HB
                                clear h0_ h1_ h2_ h3_ h4_ h5_ h6_ h7_ h8_
                                have HO4028 := n0_
                                have HO4031 := n1_
                                have HO4034 := n2_
                                have HO_0 := n3_
                                have HO_4002000 := n4_
                                have HO_4002001 := n5_
                                have HO_8 := n6_
                                have BK4001 := n7_
                                have HB := n8_
                                clear n0_ n1_ n2_ n3_ n4_ n5_ n6_ n7_ n8_
                                have hHeld : w87.cell? ⟨gb4001, 0, none⟩ = some (.slice Ao75 x4002000_1.length co75) ∧ w87.cell? ⟨gb4001, 1, none⟩ = some (.slice Ao76 x4002001_1.length co76) := hS_
                                refine norm_ (a' := ?_) ?_ ?_
                                rotate_left
                                · simp only [putAll, Act.put, List.setIfInBounds_toArray, List.set_cons_zero, List.set_cons_succ]
                                  rfl
                                refine two_ (i := 23) (j := 26) (Ni := some 87) (Nj := some 90) #[true, true, true, true, true, true, true, true, true, true, true, true, true, true, true, true, true, true, true, true, true, true, true, true, false, true, false, false, false, false, false, false, false] #[true, true, true, true, true, true, true, true, true, true, true, true, true, true, true, true, true, true, true, true, true, true, true, false, false, true, true, false, false, false, false, false, false] rfl rfl rfl rfl (two_of HT_.out (by kernel_rfl)) (by decide) (by decide) (fun K hK => ?_) (fun K hK => ?_)
                                · skip
                                  refine goes_ Try.func22 (by kernel_rfl) rfl #[.agg #[.slice Ao75 x4002000_1.length co75, .slice Ao76 x4002001_1.length co76]] (by rfl) rfl rfl (by (try simp only [List.map_toArray, List.map_cons, List.map_nil]); first | done | rfl | (simp only [List.length_drop, List.length_take]; rfl)) ?_
                                  with_reducible refine (disk_Read.calls _ _ x4002000_1 _ _ x4002001_1 t4039 _ ?side1 ?side2 ?side3 ?side4 A71.out).mono ?_
                                  (case side1 => exact Kd.C_ext (Kd.R_reads' HO_4002000.out).2.2)
                                  (case side2 => exact (Kd.R_reads' HO_4002000.out).2.1)
                                  (case side3 => exact Kd.C_ext (Kd.R_reads' HO_4002001.out).2.2)
                                  (case side4 => exact (Kd.R_reads' HO_4002001.out).2.1)
                                  rintro e w88 ⟨v4040, rfl, ho0, hb⟩
                                  refine ⟨_, rfl, ?_⟩
                                  have n7_ := Aside0.mk (Kd.R_lower (Kd.R_new' (Kd.R_new' (Kd.R_new' (Kd.R_new' (Kd.R_new' (Kd.R_new' (Kd.R_newM (M := fun k_ => (w.heap.size ≤ k_)) ho0 (below_size (below_extB HB.out)) (fun k_ h_ => h_)) (Kd.R_lt (Kd.R_ext HO_8.out))) (Kd.R_lt (Kd.R_ext HO_4002000.out))) (Kd.R_lt (Kd.R_ext HO_4002001.out))) (Kd.R_lt (Kd.R_ext HO4028.out))) (Kd.R_lt (Kd.R_ext HO4031.out))) (Kd.R_lt (Kd.R_ext HO4034.out))) (below_size (below_extB HB.out)))
                                  have HO4041 := n7_
                                  replace HO_0 := apV HO_0 hb (Kd.R_base ho0)
                                  replace HO_8 := apR HO_8 hb (Kd.R_base ho0)
                                  replace HO_4002000 := apR HO_4002000 hb (Kd.R_base ho0)
                                  replace HO_4002001 := apR HO_4002001 hb (Kd.R_base ho0)
                                  replace HO4028 := apR HO4028 hb (Kd.R_base ho0)
                                  replace HO4031 := apR HO4031 hb (Kd.R_base ho0)
                                  replace HO4034 := apR HO4034 hb (Kd.R_base ho0)
                                  replace BK4001 := mvB BK4001 hb
                                  replace HB := mvH HB hb
                                  clear n7_
                                  (try clear hb)
                                  (try clear hb2)
                                  (try clear hk)
                                  (try clear hi)
                                  (try clear ho0)
                                  refine hK.out _ _ ⟨(blk_cell BK4001.out 0).trans rfl, (blk_cell BK4001.out 1).trans rfl⟩ (fun hHeld => ?_)
                                  clear hK K
                                  refine norm_ (a' := ?_) ?_ ?_
                                  rotate_left
                                  · show Act.put _ (some 87) _ = _
                                    simp only [Act.put, List.setIfInBounds_toArray, List.set_cons_zero, List.set_cons_succ, i64_w, i32_w]
                                    rfl
                                  exact norm_ (by first | (simp only [putAll, Act.put, List.setIfInBounds_toArray, List.set_cons_zero, List.set_cons_succ]; done) | (simp only [putAll, Act.put, List.setIfInBounds_toArray, List.set_cons_zero, List.set_cons_succ]; rfl)) (hJ13_18_23 (v4040) _ ⟨hHeld, (Kd.R_ext (Kd.R_mono HO4028.out (fun _ hk => ⟨hk.1.1, ⟨hk.1.2.1, ⟨hk.1.2.2.1, ⟨hk.2, ⟨hk.1.2.2.2.1, ⟨hk.1.2.2.2.2.1, hk.1.2.2.2.2.2⟩⟩⟩⟩⟩⟩))), (Kd.R_ext (Kd.R_mono HO4031.out (fun _ hk => ⟨hk.1.1, ⟨hk.1.2.1, ⟨hk.1.2.2.1, ⟨hk.2, ⟨hk.1.2.2.2.1, ⟨hk.1.2.2.2.2.1, hk.1.2.2.2.2.2⟩⟩⟩⟩⟩⟩))), (Kd.R_ext (Kd.R_mono HO4034.out (fun _ hk => ⟨hk.1.1, ⟨hk.1.2.1, ⟨hk.1.2.2.1, ⟨hk.2, ⟨hk.1.2.2.2.1, ⟨hk.1.2.2.2.2.1, hk.1.2.2.2.2.2⟩⟩⟩⟩⟩⟩))), (Kd.R_ext (Kd.R_mono HO4041.out (fun _ hk => ⟨hk.1.1.1.1.1.1.1, ⟨hk.1.1.2, ⟨hk.1.2, ⟨hk.2, ⟨hk.1.1.1.1.2, ⟨hk.1.1.1.2, hk.1.1.1.1.1.2⟩⟩⟩⟩⟩⟩))), (Kd.V_ext (Kd.V_mono HO_0.out (fun _ hk => ⟨hk.1.1, ⟨hk.1.2.1, ⟨hk.1.2.2.1, ⟨hk.1.2.2.2.1, ⟨hk.2, ⟨hk.1.2.2.2.2.1, ⟨hk.1.2.2.2.2.2.1, ⟨hk.1.2.2.2.2.2.2.1, hk.1.2.2.2.2.2.2.2⟩⟩⟩⟩⟩⟩⟩⟩))), (Kd.R_ext (Kd.R_mono HO_4002000.out (fun _ hk => ⟨hk.1.1, ⟨hk.1.2.1, ⟨hk.1.2.2.1, ⟨hk.1.2.2.2.1, ⟨hk.2, ⟨hk.1.2.2.2.2.1, hk.1.2.2.2.2.2⟩⟩⟩⟩⟩⟩))), (Kd.R_ext (Kd.R_mono HO_4002001.out (fun _ hk => ⟨hk.1.1, ⟨hk.1.2.1, ⟨hk.1.2.2.1, ⟨hk.1.2.2.2.1, ⟨hk.2, ⟨hk.1.2.2.2.2.1, hk.1.2.2.2.2.2⟩⟩⟩⟩⟩⟩))), (Kd.R_ext (Kd.R_mono HO_8.out (fun _ hk => ⟨hk.1.1, ⟨hk.1.2.1, ⟨hk.1.2.2.1, ⟨hk.1.2.2.2.1, ⟨hk.2, ⟨hk.1.2.2.2.2.1, hk.1.2.2.2.2.2⟩⟩⟩⟩⟩⟩))), (blk_ext BK4001.out), (below_extB HB.out)⟩)
                                · skip
                                  have hcv88 := own_string (P := Try.prog) Try.underlying22 Try.underlying5 Try.underlying9 (Kd.own_of_R HO_8.out)
                                  refine value_ (w1 := ?_) (v := ?_) (by rfl) rfl ?_ ?_
                                  rotate_left 2
                                  · go_simp
                                    constructor
                                    · rfl
                                    · rfl
                                  clear hcv88
                                  refine hK.out _ _ ⟨(blk_cell BK4001.out 0).trans rfl, (blk_cell BK4001.out 1).trans rfl⟩ (fun hHeld => ?_)
                                  clear hK K
                                  refine norm_ (a' := ?_) ?_ ?_
                                  rotate_left
                                  · show Act.put _ (some 90) _ = _
                                    simp only [Act.put, List.setIfInBounds_toArray, List.set_cons_zero, List.set_cons_succ, i64_w, i32_w]
                                    rfl
                                  exact norm_ (by first | (simp only [putAll, Act.put, List.setIfInBounds_toArray, List.set_cons_zero, List.set_cons_succ]; done) | (simp only [putAll, Act.put, List.setIfInBounds_toArray, List.set_cons_zero, List.set_cons_succ]; rfl)) (hJ13_18_26 () _ ⟨hHeld, (Kd.R_ext HO4028.out), (Kd.R_ext HO4031.out), (Kd.R_ext HO4034.out), (Kd.V_ext HO_0.out), (Kd.R_ext HO_4002000.out), (Kd.R_ext HO_4002001.out), (Kd.R_ext HO_8.out), (blk_ext BK4001.out), (below_extB HB.out)⟩)
                            · skip
                              rintro _ w88 ⟨hS_, h0_, h1_, h2_, h3_, h4_, h5_, h6_, h7_, h8_⟩
                              have n0_ : Aside0 (Kd.R (Kd.int .u8) 5 w88 w.heap.size (fun k_ => (w.heap.size ≤ k_) ∧ some k_ ≠ (.slice Ao79 t4029.length co79 : Value).ownBlock ∧ some k_ ≠ (.slice Ao82 t4032.length co82 : Value).ownBlock ∧ some k_ ≠ (.slice Ao75 x4002000_1.length co75 : Value).ownBlock ∧ some k_ ≠ (.slice Ao76 x4002001_1.length co76 : Value).ownBlock ∧ some k_ ≠ (.slice Ao83 x8_1.length co83 : Value).ownBlock) (.slice Ao78 t4026.length co78) t4026) := ⟨h0_⟩
                              have n1_ : Aside0 (Kd.R (Kd.int .u8) 5 w88 w.heap.size (fun k_ => (w.heap.size ≤ k_) ∧ some k_ ≠ (.slice Ao78 t4026.length co78 : Value).ownBlock ∧ some k_ ≠ (.slice Ao82 t4032.length co82 : Value).ownBlock ∧ some k_ ≠ (.slice Ao75 x4002000_1.length co75 : Value).ownBlock ∧ some k_ ≠ (.slice Ao76 x4002001_1.length co76 : Value).ownBlock ∧ some k_ ≠ (.slice Ao83 x8_1.length co83 : Value).ownBlock) (.slice Ao79 t4029.length co79) t4029) := ⟨h1_⟩
                              have n2_ : Aside0 (Kd.R (Kd.int .u8) 5 w88 w.heap.size (fun k_ => (w.heap.size ≤ k_) ∧ some k_ ≠ (.slice Ao78 t4026.length co78 : Value).ownBlock ∧ some k_ ≠ (.slice Ao79 t4029.length co79 : Value).ownBlock ∧ some k_ ≠ (.slice Ao75 x4002000_1.length co75 : Value).ownBlock ∧ some k_ ≠ (.slice Ao76 x4002001_1.length co76 : Value).ownBlock ∧ some k_ ≠ (.slice Ao83 x8_1.length co83 : Value).ownBlock) (.slice Ao82 t4032.length co82) t4032) := ⟨h2_⟩
                              have n3_ : Aside0 (Kd.V (Kd.slice 5 (Kd.int .u8)) 22 w88 w.heap.size (fun k_ => (P0_ k_ ∨ w.heap.size ≤ k_) ∧ some k_ ≠ (.slice Ao78 t4026.length co78 : Value).ownBlock ∧ some k_ ≠ (.slice Ao79 t4029.length co79 : Value).ownBlock ∧ some k_ ≠ (.slice Ao82 t4032.length co82 : Value).ownBlock ∧ some k_ ≠ (.slice Ao75 x4002000_1.length co75 : Value).ownBlock ∧ some k_ ≠ (.slice Ao76 x4002001_1.length co76 : Value).ownBlock ∧ some k_ ≠ (.slice Ao83 x8_1.length co83 : Value).ownBlock ∧ k_ ≠ gb4001) (.slice A0 l0.length c0) l0) := ⟨h3_⟩
                              have n4_ : Aside0 (Kd.R (Kd.int .u8) 5 w88 w.heap.size (fun k_ => (w.heap.size ≤ k_) ∧ some k_ ≠ (.slice Ao78 t4026.length co78 : Value).ownBlock ∧ some k_ ≠ (.slice Ao79 t4029.length co79 : Value).ownBlock ∧ some k_ ≠ (.slice Ao82 t4032.length co82 : Value).ownBlock ∧ some k_ ≠ (.slice Ao76 x4002001_1.length co76 : Value).ownBlock ∧ some k_ ≠ (.slice Ao83 x8_1.length co83 : Value).ownBlock) (.slice Ao75 x4002000_1.length co75) x4002000_1) := ⟨h4_⟩
                              have n5_ : Aside0 (Kd.R (Kd.int .u8) 5 w88 w.heap.size (fun k_ => (w.heap.size ≤ k_) ∧ some k_ ≠ (.slice Ao78 t4026.length co78 : Value).ownBlock ∧ some k_ ≠ (.slice Ao79 t4029.length co79 : Value).ownBlock ∧ some k_ ≠ (.slice Ao82 t4032.length co82 : Value).ownBlock ∧ some k_ ≠ (.slice Ao75 x4002000_1.length co75 : Value).ownBlock ∧ some k_ ≠ (.slice Ao83 x8_1.length co83 : Value).ownBlock) (.slice Ao76 x4002001_1.length co76) x4002001_1) := ⟨h5_⟩
                              have n6_ : Aside0 (Kd.R (Kd.int .u8) 5 w88 w.heap.size (fun k_ => (w.heap.size ≤ k_) ∧ some k_ ≠ (.slice Ao78 t4026.length co78 : Value).ownBlock ∧ some k_ ≠ (.slice Ao79 t4029.length co79 : Value).ownBlock ∧ some k_ ≠ (.slice Ao82 t4032.length co82 : Value).ownBlock ∧ some k_ ≠ (.slice Ao75 x4002000_1.length co75 : Value).ownBlock ∧ some k_ ≠ (.slice Ao76 x4002001_1.length co76 : Value).ownBlock) (.slice Ao83 x8_1.length co83) x8_1) := ⟨h6_⟩
                              have n7_ : Aside0 (w88.heap[gb4001]? = some (.cells #[.slice Ao75 x4002000_1.length co75, .slice Ao76 x4002001_1.length co76] 24 (0, 0))) := ⟨h7_⟩
                              have n8_ : Aside0 (Below w.heap.size w w88) := ⟨h8_⟩
                              clear HO_0
                              clear HO_8
                              clear HO_4002000
                              clear HO_4002001
                              clear HO4028
                              clear HO4031
                              clear HO4034
                              clear BK4001
                              clear HB
                              clear h0_ h1_ h2_ h3_ h4_ h5_ h6_ h7_ h8_
                              have HO4028 := n0_
                              have HO4031 := n1_
                              have HO4034 := n2_
                              have HO_0 := n3_
                              have HO_4002000 := n4_
                              have HO_4002001 := n5_
                              have HO_8 := n6_
                              have BK4001 := n7_
                              have HB := n8_
                              clear n0_ n1_ n2_ n3_ n4_ n5_ n6_ n7_ n8_
                              have hHeld : w88.cell? ⟨gb4001, 0, none⟩ = some (.slice Ao75 x4002000_1.length co75) ∧ w88.cell? ⟨gb4001, 1, none⟩ = some (.slice Ao76 x4002001_1.length co76) := hS_
                              refine norm_ (a' := ?_) ?_ ?_
                              rotate_left
                              · simp only [putAll, Act.put, List.setIfInBounds_toArray, List.set_cons_zero, List.set_cons_succ]
                                rfl
                              refine one_ (i := 23) (N := some 87) #[true, true, true, true, true, true, true, true, true, true, true, true, true, true, true, true, true, true, true, true, true, true, true, true, false, true, true, false, false, false, false, false, false] rfl rfl (one_of HT_.out (by kernel_rfl)) (by decide) (fun K hK => ?_)
                              refine goes_ Try.func22 (by kernel_rfl) rfl #[.agg #[.slice Ao75 x4002000_1.length co75, .slice Ao76 x4002001_1.length co76]] (by rfl) rfl rfl (by (try simp only [List.map_toArray, List.map_cons, List.map_nil]); first | done | rfl | (simp only [List.length_drop, List.length_take]; rfl)) ?_
                              with_reducible refine (disk_Read.calls _ _ x4002000_1 _ _ x4002001_1 t4039 _ ?side1 ?side2 ?side3 ?side4 A71.out).mono ?_
                              (case side1 => exact Kd.C_ext (Kd.R_reads' HO_4002000.out).2.2)
                              (case side2 => exact (Kd.R_reads' HO_4002000.out).2.1)
                              (case side3 => exact Kd.C_ext (Kd.R_reads' HO_4002001.out).2.2)
                              (case side4 => exact (Kd.R_reads' HO_4002001.out).2.1)
                              rintro e w89 ⟨v4040, rfl, ho0, hb⟩
                              refine ⟨_, rfl, ?_⟩
                              have n7_ := Aside0.mk (Kd.R_lower (Kd.R_new' (Kd.R_new' (Kd.R_new' (Kd.R_new' (Kd.R_new' (Kd.R_new' (Kd.R_newM (M := fun k_ => (w.heap.size ≤ k_)) ho0 (below_size (below_extB HB.out)) (fun k_ h_ => h_)) (Kd.R_lt (Kd.R_ext HO_8.out))) (Kd.R_lt (Kd.R_ext HO_4002000.out))) (Kd.R_lt (Kd.R_ext HO_4002001.out))) (Kd.R_lt (Kd.R_ext HO4028.out))) (Kd.R_lt (Kd.R_ext HO4031.out))) (Kd.R_lt (Kd.R_ext HO4034.out))) (below_size (below_extB HB.out)))
                              have HO4041 := n7_
                              replace HO_0 := apV HO_0 hb (Kd.R_base ho0)
                              replace HO_8 := apR HO_8 hb (Kd.R_base ho0)
                              replace HO_4002000 := apR HO_4002000 hb (Kd.R_base ho0)
                              replace HO_4002001 := apR HO_4002001 hb (Kd.R_base ho0)
                              replace HO4028 := apR HO4028 hb (Kd.R_base ho0)
                              replace HO4031 := apR HO4031 hb (Kd.R_base ho0)
                              replace HO4034 := apR HO4034 hb (Kd.R_base ho0)
                              replace BK4001 := mvB BK4001 hb
                              replace HB := mvH HB hb
                              clear n7_
                              (try clear hb)
                              (try clear hb2)
                              (try clear hk)
                              (try clear hi)
                              (try clear ho0)
                              refine hK.out _ _ ⟨(blk_cell BK4001.out 0).trans rfl, (blk_cell BK4001.out 1).trans rfl⟩ (fun hHeld => ?_)
                              clear hK K
                              refine norm_ (a' := ?_) ?_ ?_
                              rotate_left
                              · show Act.put _ (some 87) _ = _
                                simp only [Act.put, List.setIfInBounds_toArray, List.set_cons_zero, List.set_cons_succ, i64_w, i32_w]
                                rfl
                              exact norm_ (by first | (simp only [putAll, Act.put, List.setIfInBounds_toArray, List.set_cons_zero, List.set_cons_succ]; done) | (simp only [putAll, Act.put, List.setIfInBounds_toArray, List.set_cons_zero, List.set_cons_succ]; rfl)) (hJ13_18_23_26 (v4040) _ ⟨hHeld, (Kd.R_ext (Kd.R_mono HO4028.out (fun _ hk => ⟨hk.1.1, ⟨hk.1.2.1, ⟨hk.1.2.2.1, ⟨hk.2, ⟨hk.1.2.2.2.1, ⟨hk.1.2.2.2.2.1, hk.1.2.2.2.2.2⟩⟩⟩⟩⟩⟩))), (Kd.R_ext (Kd.R_mono HO4031.out (fun _ hk => ⟨hk.1.1, ⟨hk.1.2.1, ⟨hk.1.2.2.1, ⟨hk.2, ⟨hk.1.2.2.2.1, ⟨hk.1.2.2.2.2.1, hk.1.2.2.2.2.2⟩⟩⟩⟩⟩⟩))), (Kd.R_ext (Kd.R_mono HO4034.out (fun _ hk => ⟨hk.1.1, ⟨hk.1.2.1, ⟨hk.1.2.2.1, ⟨hk.2, ⟨hk.1.2.2.2.1, ⟨hk.1.2.2.2.2.1, hk.1.2.2.2.2.2⟩⟩⟩⟩⟩⟩))), (Kd.R_ext (Kd.R_mono HO4041.out (fun _ hk => ⟨hk.1.1.1.1.1.1.1, ⟨hk.1.1.2, ⟨hk.1.2, ⟨hk.2, ⟨hk.1.1.1.1.2, ⟨hk.1.1.1.2, hk.1.1.1.1.1.2⟩⟩⟩⟩⟩⟩))), (Kd.V_ext (Kd.V_mono HO_0.out (fun _ hk => ⟨hk.1.1, ⟨hk.1.2.1, ⟨hk.1.2.2.1, ⟨hk.1.2.2.2.1, ⟨hk.2, ⟨hk.1.2.2.2.2.1, ⟨hk.1.2.2.2.2.2.1, ⟨hk.1.2.2.2.2.2.2.1, hk.1.2.2.2.2.2.2.2⟩⟩⟩⟩⟩⟩⟩⟩))), (Kd.R_ext (Kd.R_mono HO_4002000.out (fun _ hk => ⟨hk.1.1, ⟨hk.1.2.1, ⟨hk.1.2.2.1, ⟨hk.1.2.2.2.1, ⟨hk.2, ⟨hk.1.2.2.2.2.1, hk.1.2.2.2.2.2⟩⟩⟩⟩⟩⟩))), (Kd.R_ext (Kd.R_mono HO_4002001.out (fun _ hk => ⟨hk.1.1, ⟨hk.1.2.1, ⟨hk.1.2.2.1, ⟨hk.1.2.2.2.1, ⟨hk.2, ⟨hk.1.2.2.2.2.1, hk.1.2.2.2.2.2⟩⟩⟩⟩⟩⟩))), (Kd.R_ext (Kd.R_mono HO_8.out (fun _ hk => ⟨hk.1.1, ⟨hk.1.2.1, ⟨hk.1.2.2.1, ⟨hk.1.2.2.2.1, ⟨hk.2, ⟨hk.1.2.2.2.2.1, hk.1.2.2.2.2.2⟩⟩⟩⟩⟩⟩))), (blk_ext BK4001.out), (below_extB HB.out)⟩)
                          · skip
                            rintro v4040 w88 ⟨hS_, h0_, h1_, h2_, h3_, h4_, h5_, h6_, h7_, h8_, h9_⟩
                            have n0_ : Aside0 (Kd.R (Kd.int .u8) 5 w88 w.heap.size (fun k_ => (w.heap.size ≤ k_) ∧ some k_ ≠ (.slice Ao79 t4029.length co79 : Value).ownBlock ∧ some k_ ≠ (.slice Ao82 t4032.length co82 : Value).ownBlock ∧ some k_ ≠ (v4040 : Value).ownBlock ∧ some k_ ≠ (.slice Ao75 x4002000_1.length co75 : Value).ownBlock ∧ some k_ ≠ (.slice Ao76 x4002001_1.length co76 : Value).ownBlock ∧ some k_ ≠ (.slice Ao83 x8_1.length co83 : Value).ownBlock) (.slice Ao78 t4026.length co78) t4026) := ⟨h0_⟩
                            have n1_ : Aside0 (Kd.R (Kd.int .u8) 5 w88 w.heap.size (fun k_ => (w.heap.size ≤ k_) ∧ some k_ ≠ (.slice Ao78 t4026.length co78 : Value).ownBlock ∧ some k_ ≠ (.slice Ao82 t4032.length co82 : Value).ownBlock ∧ some k_ ≠ (v4040 : Value).ownBlock ∧ some k_ ≠ (.slice Ao75 x4002000_1.length co75 : Value).ownBlock ∧ some k_ ≠ (.slice Ao76 x4002001_1.length co76 : Value).ownBlock ∧ some k_ ≠ (.slice Ao83 x8_1.length co83 : Value).ownBlock) (.slice Ao79 t4029.length co79) t4029) := ⟨h1_⟩
                            have n2_ : Aside0 (Kd.R (Kd.int .u8) 5 w88 w.heap.size (fun k_ => (w.heap.size ≤ k_) ∧ some k_ ≠ (.slice Ao78 t4026.length co78 : Value).ownBlock ∧ some k_ ≠ (.slice Ao79 t4029.length co79 : Value).ownBlock ∧ some k_ ≠ (v4040 : Value).ownBlock ∧ some k_ ≠ (.slice Ao75 x4002000_1.length co75 : Value).ownBlock ∧ some k_ ≠ (.slice Ao76 x4002001_1.length co76 : Value).ownBlock ∧ some k_ ≠ (.slice Ao83 x8_1.length co83 : Value).ownBlock) (.slice Ao82 t4032.length co82) t4032) := ⟨h2_⟩
                            have n3_ : Aside0 (Kd.R (Kd.int .u8) 5 w88 w.heap.size (fun k_ => (w.heap.size ≤ k_) ∧ some k_ ≠ (.slice Ao78 t4026.length co78 : Value).ownBlock ∧ some k_ ≠ (.slice Ao79 t4029.length co79 : Value).ownBlock ∧ some k_ ≠ (.slice Ao82 t4032.length co82 : Value).ownBlock ∧ some k_ ≠ (.slice Ao75 x4002000_1.length co75 : Value).ownBlock ∧ some k_ ≠ (.slice Ao76 x4002001_1.length co76 : Value).ownBlock ∧ some k_ ≠ (.slice Ao83 x8_1.length co83 : Value).ownBlock) v4040 t4039) := ⟨h3_⟩
                            have n4_ : Aside0 (Kd.V (Kd.slice 5 (Kd.int .u8)) 22 w88 w.heap.size (fun k_ => (P0_ k_ ∨ w.heap.size ≤ k_) ∧ some k_ ≠ (.slice Ao78 t4026.length co78 : Value).ownBlock ∧ some k_ ≠ (.slice Ao79 t4029.length co79 : Value).ownBlock ∧ some k_ ≠ (.slice Ao82 t4032.length co82 : Value).ownBlock ∧ some k_ ≠ (v4040 : Value).ownBlock ∧ some k_ ≠ (.slice Ao75 x4002000_1.length co75 : Value).ownBlock ∧ some k_ ≠ (.slice Ao76 x4002001_1.length co76 : Value).ownBlock ∧ some k_ ≠ (.slice Ao83 x8_1.length co83 : Value).ownBlock ∧ k_ ≠ gb4001) (.slice A0 l0.length c0) l0) := ⟨h4_⟩
                            have n5_ : Aside0 (Kd.R (Kd.int .u8) 5 w88 w.heap.size (fun k_ => (w.heap.size ≤ k_) ∧ some k_ ≠ (.slice Ao78 t4026.length co78 : Value).ownBlock ∧ some k_ ≠ (.slice Ao79 t4029.length co79 : Value).ownBlock ∧ some k_ ≠ (.slice Ao82 t4032.length co82 : Value).ownBlock ∧ some k_ ≠ (v4040 : Value).ownBlock ∧ some k_ ≠ (.slice Ao76 x4002001_1.length co76 : Value).ownBlock ∧ some k_ ≠ (.slice Ao83 x8_1.length co83 : Value).ownBlock) (.slice Ao75 x4002000_1.length co75) x4002000_1) := ⟨h5_⟩
                            have n6_ : Aside0 (Kd.R (Kd.int .u8) 5 w88 w.heap.size (fun k_ => (w.heap.size ≤ k_) ∧ some k_ ≠ (.slice Ao78 t4026.length co78 : Value).ownBlock ∧ some k_ ≠ (.slice Ao79 t4029.length co79 : Value).ownBlock ∧ some k_ ≠ (.slice Ao82 t4032.length co82 : Value).ownBlock ∧ some k_ ≠ (v4040 : Value).ownBlock ∧ some k_ ≠ (.slice Ao75 x4002000_1.length co75 : Value).ownBlock ∧ some k_ ≠ (.slice Ao83 x8_1.length co83 : Value).ownBlock) (.slice Ao76 x4002001_1.length co76) x4002001_1) := ⟨h6_⟩
                            have n7_ : Aside0 (Kd.R (Kd.int .u8) 5 w88 w.heap.size (fun k_ => (w.heap.size ≤ k_) ∧ some k_ ≠ (.slice Ao78 t4026.length co78 : Value).ownBlock ∧ some k_ ≠ (.slice Ao79 t4029.length co79 : Value).ownBlock ∧ some k_ ≠ (.slice Ao82 t4032.length co82 : Value).ownBlock ∧ some k_ ≠ (v4040 : Value).ownBlock ∧ some k_ ≠ (.slice Ao75 x4002000_1.length co75 : Value).ownBlock ∧ some k_ ≠ (.slice Ao76 x4002001_1.length co76 : Value).ownBlock) (.slice Ao83 x8_1.length co83) x8_1) := ⟨h7_⟩
                            have n8_ : Aside0 (w88.heap[gb4001]? = some (.cells #[.slice Ao75 x4002000_1.length co75, .slice Ao76 x4002001_1.length co76] 24 (0, 0))) := ⟨h8_⟩
                            have n9_ : Aside0 (Below w.heap.size w w88) := ⟨h9_⟩
                            clear HO_0
                            clear HO_8
                            clear HO_4002000
                            clear HO_4002001
                            clear HO4028
                            clear HO4031
                            clear HO4034
                            clear BK4001
                            clear HB
                            clear h0_ h1_ h2_ h3_ h4_ h5_ h6_ h7_ h8_ h9_
                            have HO4028 := n0_
                            have HO4031 := n1_
                            have HO4034 := n2_
                            have HO4041 := n3_
                            have HO_0 := n4_
                            have HO_4002000 := n5_
                            have HO_4002001 := n6_
                            have HO_8 := n7_
                            have BK4001 := n8_
                            have HB := n9_
                            clear n0_ n1_ n2_ n3_ n4_ n5_ n6_ n7_ n8_ n9_
                            have hHeld : w88.cell? ⟨gb4001, 0, none⟩ = some (.slice Ao75 x4002000_1.length co75) ∧ w88.cell? ⟨gb4001, 1, none⟩ = some (.slice Ao76 x4002001_1.length co76) := hS_
                            refine norm_ (a' := ?_) ?_ ?_
                            rotate_left
                            · simp only [putAll, Act.put, List.setIfInBounds_toArray, List.set_cons_zero, List.set_cons_succ]
                              rfl
                            refine two_ (i := 24) (j := 26) (Ni := some 88) (Nj := some 90) #[true, true, true, true, true, true, true, true, true, true, true, true, true, true, true, true, true, true, true, true, true, true, true, true, true, true, false, false, false, false, false, false, false] #[true, true, true, true, true, true, true, true, true, true, true, true, true, true, true, true, true, true, true, true, true, true, true, true, false, true, true, false, false, false, false, false, false] rfl rfl rfl rfl (two_of HT_.out (by kernel_rfl)) (by decide) (by decide) (fun K hK => ?_) (fun K hK => ?_)
                            · skip
                              have hcv89 := own_string (P := Try.prog) Try.underlying22 Try.underlying5 Try.underlying9 (Kd.own_of_R HO4041.out)
                              refine value_ (w1 := ?_) (v := ?_) (by rfl) rfl ?_ ?_
                              rotate_left 2
                              · go_simp
                                constructor
                                · rfl
                                · rfl
                              clear hcv89
                              refine hK.out _ _ ⟨(blk_cell BK4001.out 0).trans rfl, (blk_cell BK4001.out 1).trans rfl⟩ (fun hHeld => ?_)
                              clear hK K
                              refine norm_ (a' := ?_) ?_ ?_
                              rotate_left
                              · show Act.put _ (some 88) _ = _
                                simp only [Act.put, List.setIfInBounds_toArray, List.set_cons_zero, List.set_cons_succ, i64_w, i32_w]
                                rfl
                              exact norm_ (by first | (simp only [putAll, Act.put, List.setIfInBounds_toArray, List.set_cons_zero, List.set_cons_succ]; done) | (simp only [putAll, Act.put, List.setIfInBounds_toArray, List.set_cons_zero, List.set_cons_succ]; rfl)) (hJ13_18_23_24 (v4040) _ ⟨hHeld, (Kd.R_ext HO4028.out), (Kd.R_ext HO4031.out), (Kd.R_ext HO4034.out), (Kd.R_ext HO4041.out), (Kd.V_ext HO_0.out), (Kd.R_ext HO_4002000.out), (Kd.R_ext HO_4002001.out), (Kd.R_ext HO_8.out), (blk_ext BK4001.out), (below_extB HB.out)⟩)
                            · skip
                              have hcv89 := own_string (P := Try.prog) Try.underlying22 Try.underlying5 Try.underlying9 (Kd.own_of_R HO_8.out)
                              refine value_ (w1 := ?_) (v := ?_) (by rfl) rfl ?_ ?_
                              rotate_left 2
                              · go_simp
                                constructor
                                · rfl
                                · rfl
                              clear hcv89
                              refine hK.out _ _ ⟨(blk_cell BK4001.out 0).trans rfl, (blk_cell BK4001.out 1).trans rfl⟩ (fun hHeld => ?_)
                              clear hK K
                              refine norm_ (a' := ?_) ?_ ?_
                              rotate_left
                              · show Act.put _ (some 90) _ = _
                                simp only [Act.put, List.setIfInBounds_toArray, List.set_cons_zero, List.set_cons_succ, i64_w, i32_w]
                                rfl
                              exact norm_ (by first | (simp only [putAll, Act.put, List.setIfInBounds_toArray, List.set_cons_zero, List.set_cons_succ]; done) | (simp only [putAll, Act.put, List.setIfInBounds_toArray, List.set_cons_zero, List.set_cons_succ]; rfl)) (hJ13_18_23_26 (v4040) _ ⟨hHeld, (Kd.R_ext HO4028.out), (Kd.R_ext HO4031.out), (Kd.R_ext HO4034.out), (Kd.R_ext HO4041.out), (Kd.V_ext HO_0.out), (Kd.R_ext HO_4002000.out), (Kd.R_ext HO_4002001.out), (Kd.R_ext HO_8.out), (blk_ext BK4001.out), (below_extB HB.out)⟩)
                        · skip
                          rintro v4040 w89 ⟨hS_, h0_, h1_, h2_, h3_, h4_, h5_, h6_, h7_, h8_, h9_⟩
                          have n0_ : Aside0 (Kd.R (Kd.int .u8) 5 w89 w.heap.size (fun k_ => (w.heap.size ≤ k_) ∧ some k_ ≠ (.slice Ao79 t4029.length co79 : Value).ownBlock ∧ some k_ ≠ (.slice Ao82 t4032.length co82 : Value).ownBlock ∧ some k_ ≠ (v4040 : Value).ownBlock ∧ some k_ ≠ (.slice Ao75 x4002000_1.length co75 : Value).ownBlock ∧ some k_ ≠ (.slice Ao76 x4002001_1.length co76 : Value).ownBlock ∧ some k_ ≠ (.slice Ao83 x8_1.length co83 : Value).ownBlock) (.slice Ao78 t4026.length co78) t4026) := ⟨h0_⟩
                          have n1_ : Aside0 (Kd.R (Kd.int .u8) 5 w89 w.heap.size (fun k_ => (w.heap.size ≤ k_) ∧ some k_ ≠ (.slice Ao78 t4026.length co78 : Value).ownBlock ∧ some k_ ≠ (.slice Ao82 t4032.length co82 : Value).ownBlock ∧ some k_ ≠ (v4040 : Value).ownBlock ∧ some k_ ≠ (.slice Ao75 x4002000_1.length co75 : Value).ownBlock ∧ some k_ ≠ (.slice Ao76 x4002001_1.length co76 : Value).ownBlock ∧ some k_ ≠ (.slice Ao83 x8_1.length co83 : Value).ownBlock) (.slice Ao79 t4029.length co79) t4029) := ⟨h1_⟩
                          have n2_ : Aside0 (Kd.R (Kd.int .u8) 5 w89 w.heap.size (fun k_ => (w.heap.size ≤ k_) ∧ some k_ ≠ (.slice Ao78 t4026.length co78 : Value).ownBlock ∧ some k_ ≠ (.slice Ao79 t4029.length co79 : Value).ownBlock ∧ some k_ ≠ (v4040 : Value).ownBlock ∧ some k_ ≠ (.slice Ao75 x4002000_1.length co75 : Value).ownBlock ∧ some k_ ≠ (.slice Ao76 x4002001_1.length co76 : Value).ownBlock ∧ some k_ ≠ (.slice Ao83 x8_1.length co83 : Value).ownBlock) (.slice Ao82 t4032.length co82) t4032) := ⟨h2_⟩
                          have n3_ : Aside0 (Kd.R (Kd.int .u8) 5 w89 w.heap.size (fun k_ => (w.heap.size ≤ k_) ∧ some k_ ≠ (.slice Ao78 t4026.length co78 : Value).ownBlock ∧ some k_ ≠ (.slice Ao79 t4029.length co79 : Value).ownBlock ∧ some k_ ≠ (.slice Ao82 t4032.length co82 : Value).ownBlock ∧ some k_ ≠ (.slice Ao75 x4002000_1.length co75 : Value).ownBlock ∧ some k_ ≠ (.slice Ao76 x4002001_1.length co76 : Value).ownBlock ∧ some k_ ≠ (.slice Ao83 x8_1.length co83 : Value).ownBlock) v4040 t4039) := ⟨h3_⟩
                          have n4_ : Aside0 (Kd.V (Kd.slice 5 (Kd.int .u8)) 22 w89 w.heap.size (fun k_ => (P0_ k_ ∨ w.heap.size ≤ k_) ∧ some k_ ≠ (.slice Ao78 t4026.length co78 : Value).ownBlock ∧ some k_ ≠ (.slice Ao79 t4029.length co79 : Value).ownBlock ∧ some k_ ≠ (.slice Ao82 t4032.length co82 : Value).ownBlock ∧ some k_ ≠ (v4040 : Value).ownBlock ∧ some k_ ≠ (.slice Ao75 x4002000_1.length co75 : Value).ownBlock ∧ some k_ ≠ (.slice Ao76 x4002001_1.length co76 : Value).ownBlock ∧ some k_ ≠ (.slice Ao83 x8_1.length co83 : Value).ownBlock ∧ k_ ≠ gb4001) (.slice A0 l0.length c0) l0) := ⟨h4_⟩
                          have n5_ : Aside0 (Kd.R (Kd.int .u8) 5 w89 w.heap.size (fun k_ => (w.heap.size ≤ k_) ∧ some k_ ≠ (.slice Ao78 t4026.length co78 : Value).ownBlock ∧ some k_ ≠ (.slice Ao79 t4029.length co79 : Value).ownBlock ∧ some k_ ≠ (.slice Ao82 t4032.length co82 : Value).ownBlock ∧ some k_ ≠ (v4040 : Value).ownBlock ∧ some k_ ≠ (.slice Ao76 x4002001_1.length co76 : Value).ownBlock ∧ some k_ ≠ (.slice Ao83 x8_1.length co83 : Value).ownBlock) (.slice Ao75 x4002000_1.length co75) x4002000_1) := ⟨h5_⟩
                          have n6_ : Aside0 (Kd.R (Kd.int .u8) 5 w89 w.heap.size (fun k_ => (w.heap.size ≤ k_) ∧ some k_ ≠ (.slice Ao78 t4026.length co78 : Value).ownBlock ∧ some k_ ≠ (.slice Ao79 t4029.length co79 : Value).ownBlock ∧ some k_ ≠ (.slice Ao82 t4032.length co82 : Value).ownBlock ∧ some k_ ≠ (v4040 : Value).ownBlock ∧ some k_ ≠ (.slice Ao75 x4002000_1.length co75 : Value).ownBlock ∧ some k_ ≠ (.slice Ao83 x8_1.length co83 : Value).ownBlock) (.slice Ao76 x4002001_1.length co76) x4002001_1) := ⟨h6_⟩
                          have n7_ : Aside0 (Kd.R (Kd.int .u8) 5 w89 w.heap.size (fun k_ => (w.heap.size ≤ k_) ∧ some k_ ≠ (.slice Ao78 t4026.length co78 : Value).ownBlock ∧ some k_ ≠ (.slice Ao79 t4029.length co79 : Value).ownBlock ∧ some k_ ≠ (.slice Ao82 t4032.length co82 : Value).ownBlock ∧ some k_ ≠ (v4040 : Value).ownBlock ∧ some k_ ≠ (.slice Ao75 x4002000_1.length co75 : Value).ownBlock ∧ some k_ ≠ (.slice Ao76 x4002001_1.length co76 : Value).ownBlock) (.slice Ao83 x8_1.length co83) x8_1) := ⟨h7_⟩
                          have n8_ : Aside0 (w89.heap[gb4001]? = some (.cells #[.slice Ao75 x4002000_1.length co75, .slice Ao76 x4002001_1.length co76] 24 (0, 0))) := ⟨h8_⟩
                          have n9_ : Aside0 (Below w.heap.size w w89) := ⟨h9_⟩
                          clear HO_0
                          clear HO_8
                          clear HO_4002000
                          clear HO_4002001
                          clear HO4028
                          clear HO4031
                          clear HO4034
                          clear BK4001
                          clear HB
                          clear h0_ h1_ h2_ h3_ h4_ h5_ h6_ h7_ h8_ h9_
                          have HO4028 := n0_
                          have HO4031 := n1_
                          have HO4034 := n2_
                          have HO4041 := n3_
                          have HO_0 := n4_
                          have HO_4002000 := n5_
                          have HO_4002001 := n6_
                          have HO_8 := n7_
                          have BK4001 := n8_
                          have HB := n9_
                          clear n0_ n1_ n2_ n3_ n4_ n5_ n6_ n7_ n8_ n9_
                          have hHeld : w89.cell? ⟨gb4001, 0, none⟩ = some (.slice Ao75 x4002000_1.length co75) ∧ w89.cell? ⟨gb4001, 1, none⟩ = some (.slice Ao76 x4002001_1.length co76) := hS_
                          refine norm_ (a' := ?_) ?_ ?_
                          rotate_left
                          · simp only [putAll, Act.put, List.setIfInBounds_toArray, List.set_cons_zero, List.set_cons_succ]
                            rfl
                          refine one_ (i := 24) (N := some 88) #[true, true, true, true, true, true, true, true, true, true, true, true, true, true, true, true, true, true, true, true, true, true, true, true, true, true, true, false, false, false, false, false, false] rfl rfl (one_of HT_.out (by kernel_rfl)) (by decide) (fun K hK => ?_)
                          have hcv90 := own_string (P := Try.prog) Try.underlying22 Try.underlying5 Try.underlying9 (Kd.own_of_R HO4041.out)
                          refine value_ (w1 := ?_) (v := ?_) (by rfl) rfl ?_ ?_
                          rotate_left 2
                          · go_simp
                            constructor
                            · rfl
                            · rfl
                          clear hcv90
                          refine hK.out _ _ ⟨(blk_cell BK4001.out 0).trans rfl, (blk_cell BK4001.out 1).trans rfl⟩ (fun hHeld => ?_)
                          clear hK K
                          refine norm_ (a' := ?_) ?_ ?_
                          rotate_left
                          · show Act.put _ (some 88) _ = _
                            simp only [Act.put, List.setIfInBounds_toArray, List.set_cons_zero, List.set_cons_succ, i64_w, i32_w]
                            rfl
                          exact norm_ (by first | (simp only [putAll, Act.put, List.setIfInBounds_toArray, List.set_cons_zero, List.set_cons_succ]; done) | (simp only [putAll, Act.put, List.setIfInBounds_toArray, List.set_cons_zero, List.set_cons_succ]; rfl)) (hJ13_18_23_24_26 (v4040) _ ⟨hHeld, (Kd.R_ext HO4028.out), (Kd.R_ext HO4031.out), (Kd.R_ext HO4034.out), (Kd.R_ext HO4041.out), (Kd.V_ext HO_0.out), (Kd.R_ext HO_4002000.out), (Kd.R_ext HO_4002001.out), (Kd.R_ext HO_8.out), (blk_ext BK4001.out), (below_extB HB.out)⟩)
                      · skip
                        rintro v4040 w89 ⟨hS_, h0_, h1_, h2_, h3_, h4_, h5_, h6_, h7_, h8_, h9_⟩
                        have n0_ : Aside0 (Kd.R (Kd.int .u8) 5 w89 w.heap.size (fun k_ => (w.heap.size ≤ k_) ∧ some k_ ≠ (.slice Ao79 t4029.length co79 : Value).ownBlock ∧ some k_ ≠ (.slice Ao82 t4032.length co82 : Value).ownBlock ∧ some k_ ≠ (v4040 : Value).ownBlock ∧ some k_ ≠ (.slice Ao75 x4002000_1.length co75 : Value).ownBlock ∧ some k_ ≠ (.slice Ao76 x4002001_1.length co76 : Value).ownBlock ∧ some k_ ≠ (.slice Ao83 x8_1.length co83 : Value).ownBlock) (.slice Ao78 t4026.length co78) t4026) := ⟨h0_⟩
                        have n1_ : Aside0 (Kd.R (Kd.int .u8) 5 w89 w.heap.size (fun k_ => (w.heap.size ≤ k_) ∧ some k_ ≠ (.slice Ao78 t4026.length co78 : Value).ownBlock ∧ some k_ ≠ (.slice Ao82 t4032.length co82 : Value).ownBlock ∧ some k_ ≠ (v4040 : Value).ownBlock ∧ some k_ ≠ (.slice Ao75 x4002000_1.length co75 : Value).ownBlock ∧ some k_ ≠ (.slice Ao76 x4002001_1.length co76 : Value).ownBlock ∧ some k_ ≠ (.slice Ao83 x8_1.length co83 : Value).ownBlock) (.slice Ao79 t4029.length co79) t4029) := ⟨h1_⟩
                        have n2_ : Aside0 (Kd.R (Kd.int .u8) 5 w89 w.heap.size (fun k_ => (w.heap.size ≤ k_) ∧ some k_ ≠ (.slice Ao78 t4026.length co78 : Value).ownBlock ∧ some k_ ≠ (.slice Ao79 t4029.length co79 : Value).ownBlock ∧ some k_ ≠ (v4040 : Value).ownBlock ∧ some k_ ≠ (.slice Ao75 x4002000_1.length co75 : Value).ownBlock ∧ some k_ ≠ (.slice Ao76 x4002001_1.length co76 : Value).ownBlock ∧ some k_ ≠ (.slice Ao83 x8_1.length co83 : Value).ownBlock) (.slice Ao82 t4032.length co82) t4032) := ⟨h2_⟩
                        have n3_ : Aside0 (Kd.R (Kd.int .u8) 5 w89 w.heap.size (fun k_ => (w.heap.size ≤ k_) ∧ some k_ ≠ (.slice Ao78 t4026.length co78 : Value).ownBlock ∧ some k_ ≠ (.slice Ao79 t4029.length co79 : Value).ownBlock ∧ some k_ ≠ (.slice Ao82 t4032.length co82 : Value).ownBlock ∧ some k_ ≠ (.slice Ao75 x4002000_1.length co75 : Value).ownBlock ∧ some k_ ≠ (.slice Ao76 x4002001_1.length co76 : Value).ownBlock ∧ some k_ ≠ (.slice Ao83 x8_1.length co83 : Value).ownBlock) v4040 t4039) := ⟨h3_⟩
                        have n4_ : Aside0 (Kd.V (Kd.slice 5 (Kd.int .u8)) 22 w89 w.heap.size (fun k_ => (P0_ k_ ∨ w.heap.size ≤ k_) ∧ some k_ ≠ (.slice Ao78 t4026.length co78 : Value).ownBlock ∧ some k_ ≠ (.slice Ao79 t4029.length co79 : Value).ownBlock ∧ some k_ ≠ (.slice Ao82 t4032.length co82 : Value).ownBlock ∧ some k_ ≠ (v4040 : Value).ownBlock ∧ some k_ ≠ (.slice Ao75 x4002000_1.length co75 : Value).ownBlock ∧ some k_ ≠ (.slice Ao76 x4002001_1.length co76 : Value).ownBlock ∧ some k_ ≠ (.slice Ao83 x8_1.length co83 : Value).ownBlock ∧ k_ ≠ gb4001) (.slice A0 l0.length c0) l0) := ⟨h4_⟩
                        have n5_ : Aside0 (Kd.R (Kd.int .u8) 5 w89 w.heap.size (fun k_ => (w.heap.size ≤ k_) ∧ some k_ ≠ (.slice Ao78 t4026.length co78 : Value).ownBlock ∧ some k_ ≠ (.slice Ao79 t4029.length co79 : Value).ownBlock ∧ some k_ ≠ (.slice Ao82 t4032.length co82 : Value).ownBlock ∧ some k_ ≠ (v4040 : Value).ownBlock ∧ some k_ ≠ (.slice Ao76 x4002001_1.length co76 : Value).ownBlock ∧ some k_ ≠ (.slice Ao83 x8_1.length co83 : Value).ownBlock) (.slice Ao75 x4002000_1.length co75) x4002000_1) := ⟨h5_⟩
                        have n6_ : Aside0 (Kd.R (Kd.int .u8) 5 w89 w.heap.size (fun k_ => (w.heap.size ≤ k_) ∧ some k_ ≠ (.slice Ao78 t4026.length co78 : Value).ownBlock ∧ some k_ ≠ (.slice Ao79 t4029.length co79 : Value).ownBlock ∧ some k_ ≠ (.slice Ao82 t4032.length co82 : Value).ownBlock ∧ some k_ ≠ (v4040 : Value).ownBlock ∧ some k_ ≠ (.slice Ao75 x4002000_1.length co75 : Value).ownBlock ∧ some k_ ≠ (.slice Ao83 x8_1.length co83 : Value).ownBlock) (.slice Ao76 x4002001_1.length co76) x4002001_1) := ⟨h6_⟩
                        have n7_ : Aside0 (Kd.R (Kd.int .u8) 5 w89 w.heap.size (fun k_ => (w.heap.size ≤ k_) ∧ some k_ ≠ (.slice Ao78 t4026.length co78 : Value).ownBlock ∧ some k_ ≠ (.slice Ao79 t4029.length co79 : Value).ownBlock ∧ some k_ ≠ (.slice Ao82 t4032.length co82 : Value).ownBlock ∧ some k_ ≠ (v4040 : Value).ownBlock ∧ some k_ ≠ (.slice Ao75 x4002000_1.length co75 : Value).ownBlock ∧ some k_ ≠ (.slice Ao76 x4002001_1.length co76 : Value).ownBlock) (.slice Ao83 x8_1.length co83) x8_1) := ⟨h7_⟩
                        have n8_ : Aside0 (w89.heap[gb4001]? = some (.cells #[.slice Ao75 x4002000_1.length co75, .slice Ao76 x4002001_1.length co76] 24 (0, 0))) := ⟨h8_⟩
                        have n9_ : Aside0 (Below w.heap.size w w89) := ⟨h9_⟩
                        clear HO_0
                        clear HO_8
                        clear HO_4002000
                        clear HO_4002001
                        clear HO4028
                        clear HO4031
                        clear HO4034
                        clear BK4001
                        clear HB
                        clear h0_ h1_ h2_ h3_ h4_ h5_ h6_ h7_ h8_ h9_
                        have HO4028 := n0_
                        have HO4031 := n1_
                        have HO4034 := n2_
                        have HO4041 := n3_
                        have HO_0 := n4_
                        have HO_4002000 := n5_
                        have HO_4002001 := n6_
                        have HO_8 := n7_
                        have BK4001 := n8_
                        have HB := n9_
                        clear n0_ n1_ n2_ n3_ n4_ n5_ n6_ n7_ n8_ n9_
                        have hHeld : w89.cell? ⟨gb4001, 0, none⟩ = some (.slice Ao75 x4002000_1.length co75) ∧ w89.cell? ⟨gb4001, 1, none⟩ = some (.slice Ao76 x4002001_1.length co76) := hS_
                        refine norm_ (a' := ?_) ?_ ?_
                        rotate_left
                        · simp only [putAll, Act.put, List.setIfInBounds_toArray, List.set_cons_zero, List.set_cons_succ]
                          rfl
                        refine one_ (i := 26) (N := some 90) #[true, true, true, true, true, true, true, true, true, true, true, true, true, true, true, true, true, true, true, true, true, true, true, true, true, true, true, false, false, false, false, false, false] rfl rfl (one_of HT_.out (by kernel_rfl)) (by decide) (fun K hK => ?_)
                        have hcv90 := own_string (P := Try.prog) Try.underlying22 Try.underlying5 Try.underlying9 (Kd.own_of_R HO_8.out)
                        refine value_ (w1 := ?_) (v := ?_) (by rfl) rfl ?_ ?_
                        rotate_left 2
                        · go_simp
                          constructor
                          · rfl
                          · rfl
                        clear hcv90
                        refine hK.out _ _ ⟨(blk_cell BK4001.out 0).trans rfl, (blk_cell BK4001.out 1).trans rfl⟩ (fun hHeld => ?_)
                        clear hK K
                        refine norm_ (a' := ?_) ?_ ?_
                        rotate_left
                        · show Act.put _ (some 90) _ = _
                          simp only [Act.put, List.setIfInBounds_toArray, List.set_cons_zero, List.set_cons_succ, i64_w, i32_w]
                          rfl
                        exact norm_ (by first | (simp only [putAll, Act.put, List.setIfInBounds_toArray, List.set_cons_zero, List.set_cons_succ]; done) | (simp only [putAll, Act.put, List.setIfInBounds_toArray, List.set_cons_zero, List.set_cons_succ]; rfl)) (hJ13_18_23_24_26 (v4040) _ ⟨hHeld, (Kd.R_ext HO4028.out), (Kd.R_ext HO4031.out), (Kd.R_ext HO4034.out), (Kd.R_ext HO4041.out), (Kd.V_ext HO_0.out), (Kd.R_ext HO_4002000.out), (Kd.R_ext HO_4002001.out), (Kd.R_ext HO_8.out), (blk_ext BK4001.out), (below_extB HB.out)⟩)
                    rintro v4040 w90 ⟨hS_, h0_, h1_, h2_, h3_, h4_, h5_, h6_, h7_, h8_, h9_⟩
                    have n0_ : Aside0 (Kd.R (Kd.int .u8) 5 w90 w.heap.size (fun k_ => (w.heap.size ≤ k_) ∧ some k_ ≠ (.slice Ao79 t4029.length co79 : Value).ownBlock ∧ some k_ ≠ (.slice Ao82 t4032.length co82 : Value).ownBlock ∧ some k_ ≠ (v4040 : Value).ownBlock ∧ some k_ ≠ (.slice Ao75 x4002000_1.length co75 : Value).ownBlock ∧ some k_ ≠ (.slice Ao76 x4002001_1.length co76 : Value).ownBlock ∧ some k_ ≠ (.slice Ao83 x8_1.length co83 : Value).ownBlock) (.slice Ao78 t4026.length co78) t4026) := ⟨h0_⟩
                    have n1_ : Aside0 (Kd.R (Kd.int .u8) 5 w90 w.heap.size (fun k_ => (w.heap.size ≤ k_) ∧ some k_ ≠ (.slice Ao78 t4026.length co78 : Value).ownBlock ∧ some k_ ≠ (.slice Ao82 t4032.length co82 : Value).ownBlock ∧ some k_ ≠ (v4040 : Value).ownBlock ∧ some k_ ≠ (.slice Ao75 x4002000_1.length co75 : Value).ownBlock ∧ some k_ ≠ (.slice Ao76 x4002001_1.length co76 : Value).ownBlock ∧ some k_ ≠ (.slice Ao83 x8_1.length co83 : Value).ownBlock) (.slice Ao79 t4029.length co79) t4029) := ⟨h1_⟩
                    have n2_ : Aside0 (Kd.R (Kd.int .u8) 5 w90 w.heap.size (fun k_ => (w.heap.size ≤ k_) ∧ some k_ ≠ (.slice Ao78 t4026.length co78 : Value).ownBlock ∧ some k_ ≠ (.slice Ao79 t4029.length co79 : Value).ownBlock ∧ some k_ ≠ (v4040 : Value).ownBlock ∧ some k_ ≠ (.slice Ao75 x4002000_1.length co75 : Value).ownBlock ∧ some k_ ≠ (.slice Ao76 x4002001_1.length co76 : Value).ownBlock ∧ some k_ ≠ (.slice Ao83 x8_1.length co83 : Value).ownBlock) (.slice Ao82 t4032.length co82) t4032) := ⟨h2_⟩
                    have n3_ : Aside0 (Kd.R (Kd.int .u8) 5 w90 w.heap.size (fun k_ => (w.heap.size ≤ k_) ∧ some k_ ≠ (.slice Ao78 t4026.length co78 : Value).ownBlock ∧ some k_ ≠ (.slice Ao79 t4029.length co79 : Value).ownBlock ∧ some k_ ≠ (.slice Ao82 t4032.length co82 : Value).ownBlock ∧ some k_ ≠ (.slice Ao75 x4002000_1.length co75 : Value).ownBlock ∧ some k_ ≠ (.slice Ao76 x4002001_1.length co76 : Value).ownBlock ∧ some k_ ≠ (.slice Ao83 x8_1.length co83 : Value).ownBlock) v4040 t4039) := ⟨h3_⟩
                    have n4_ : Aside0 (Kd.V (Kd.slice 5 (Kd.int .u8)) 22 w90 w.heap.size (fun k_ => (P0_ k_ ∨ w.heap.size ≤ k_) ∧ some k_ ≠ (.slice Ao78 t4026.length co78 : Value).ownBlock ∧ some k_ ≠ (.slice Ao79 t4029.length co79 : Value).ownBlock ∧ some k_ ≠ (.slice Ao82 t4032.length co82 : Value).ownBlock ∧ some k_ ≠ (v4040 : Value).ownBlock ∧ some k_ ≠ (.slice Ao75 x4002000_1.length co75 : Value).ownBlock ∧ some k_ ≠ (.slice Ao76 x4002001_1.length co76 : Value).ownBlock ∧ some k_ ≠ (.slice Ao83 x8_1.length co83 : Value).ownBlock ∧ k_ ≠ gb4001) (.slice A0 l0.length c0) l0) := ⟨h4_⟩
                    have n5_ : Aside0 (Kd.R (Kd.int .u8) 5 w90 w.heap.size (fun k_ => (w.heap.size ≤ k_) ∧ some k_ ≠ (.slice Ao78 t4026.length co78 : Value).ownBlock ∧ some k_ ≠ (.slice Ao79 t4029.length co79 : Value).ownBlock ∧ some k_ ≠ (.slice Ao82 t4032.length co82 : Value).ownBlock ∧ some k_ ≠ (v4040 : Value).ownBlock ∧ some k_ ≠ (.slice Ao76 x4002001_1.length co76 : Value).ownBlock ∧ some k_ ≠ (.slice Ao83 x8_1.length co83 : Value).ownBlock) (.slice Ao75 x4002000_1.length co75) x4002000_1) := ⟨h5_⟩
                    have n6_ : Aside0 (Kd.R (Kd.int .u8) 5 w90 w.heap.size (fun k_ => (w.heap.size ≤ k_) ∧ some k_ ≠ (.slice Ao78 t4026.length co78 : Value).ownBlock ∧ some k_ ≠ (.slice Ao79 t4029.length co79 : Value).ownBlock ∧ some k_ ≠ (.slice Ao82 t4032.length co82 : Value).ownBlock ∧ some k_ ≠ (v4040 : Value).ownBlock ∧ some k_ ≠ (.slice Ao75 x4002000_1.length co75 : Value).ownBlock ∧ some k_ ≠ (.slice Ao83 x8_1.length co83 : Value).ownBlock) (.slice Ao76 x4002001_1.length co76) x4002001_1) := ⟨h6_⟩
                    have n7_ : Aside0 (Kd.R (Kd.int .u8) 5 w90 w.heap.size (fun k_ => (w.heap.size ≤ k_) ∧ some k_ ≠ (.slice Ao78 t4026.length co78 : Value).ownBlock ∧ some k_ ≠ (.slice Ao79 t4029.length co79 : Value).ownBlock ∧ some k_ ≠ (.slice Ao82 t4032.length co82 : Value).ownBlock ∧ some k_ ≠ (v4040 : Value).ownBlock ∧ some k_ ≠ (.slice Ao75 x4002000_1.length co75 : Value).ownBlock ∧ some k_ ≠ (.slice Ao76 x4002001_1.length co76 : Value).ownBlock) (.slice Ao83 x8_1.length co83) x8_1) := ⟨h7_⟩
                    have n8_ : Aside0 (w90.heap[gb4001]? = some (.cells #[.slice Ao75 x4002000_1.length co75, .slice Ao76 x4002001_1.length co76] 24 (0, 0))) := ⟨h8_⟩
                    have n9_ : Aside0 (Below w.heap.size w w90) := ⟨h9_⟩
                    clear HO_0
                    clear HO_8
                    clear HO_4002000
                    clear HO_4002001
                    clear HO4028
                    clear HO4031
                    clear HO4034
                    clear BK4001
                    clear HB
                    clear h0_ h1_ h2_ h3_ h4_ h5_ h6_ h7_ h8_ h9_
                    have HO4028 := n0_
                    have HO4031 := n1_
                    have HO4034 := n2_
                    have HO4041 := n3_
                    have HO_0 := n4_
                    have HO_4002000 := n5_
                    have HO_4002001 := n6_
                    have HO_8 := n7_
                    have BK4001 := n8_
                    have HB := n9_
                    clear n0_ n1_ n2_ n3_ n4_ n5_ n6_ n7_ n8_ n9_
                    have hHeld : w90.cell? ⟨gb4001, 0, none⟩ = some (.slice Ao75 x4002000_1.length co75) ∧ w90.cell? ⟨gb4001, 1, none⟩ = some (.slice Ao76 x4002001_1.length co76) := hS_
                    refine norm_ (a' := ?_) ?_ ?_
                    rotate_left
                    · simp only [putAll, Act.put, List.setIfInBounds_toArray, List.set_cons_zero, List.set_cons_succ]
                      rfl
                    refine pure_ (i := 27) (N := some 91) (v := ?_) (a' := ?_) #[true, true, true, true, true, true, true, true, true, true, true, true, true, true, true, true, true, true, true, true, true, true, true, true, true, true, true, true, false, false, false, false, false] rfl rfl (any_of HT_.out (by kernel_rfl)) (fun _ _ _ h => h) (Or.inl ⟨by rfl, ?_⟩) ?_ ?_
                    rotate_left
                    · intro w'
                      go_simp
                      with_reducible rfl
                    rotate_left
                    · simp only [Act.put, List.setIfInBounds_toArray, List.set_cons_zero, List.set_cons_succ, i64_w, i32_w]
                      rfl
                    refine pure_ (i := 28) (N := some 92) (v := ?_) (a' := ?_) #[true, true, true, true, true, true, true, true, true, true, true, true, true, true, true, true, true, true, true, true, true, true, true, true, true, true, true, true, true, false, false, false, false] rfl rfl (any_of HT_.out (by kernel_rfl)) (fun _ _ _ h => h) (Or.inl ⟨by rfl, ?_⟩) ?_ ?_
                    rotate_left
                    · intro w'
                      go_simp
                      with_reducible rfl
                    rotate_left
                    · simp only [Act.put, List.setIfInBounds_toArray, List.set_cons_zero, List.set_cons_succ, i64_w, i32_w]
                      rfl
                    refine pure_ (i := 29) (N := some 93) (v := ?_) (a' := ?_) #[true, true, true, true, true, true, true, true, true, true, true, true, true, true, true, true, true, true, true, true, true, true, true, true, true, true, true, true, true, true, false, false, false] rfl rfl (any_of HT_.out (by kernel_rfl)) (fun _ _ _ h => h) (Or.inl ⟨by rfl, ?_⟩) ?_ ?_
                    rotate_left
                    · intro w'
                      go_simp
                      with_reducible rfl
                    rotate_left
                    · simp only [Act.put, List.setIfInBounds_toArray, List.set_cons_zero, List.set_cons_succ, i64_w, i32_w]
                      rfl
                    refine one_ (i := 30) (N := some 94) #[true, true, true, true, true, true, true, true, true, true, true, true, true, true, true, true, true, true, true, true, true, true, true, true, true, true, true, true, true, true, true, false, false] rfl rfl (one_of HT_.out (by kernel_rfl)) (by decide) (fun K hK => ?_)
                    refine goes_ Try.func24 (by kernel_rfl) rfl #[] (by rfl) rfl rfl (by (try simp only [List.map_toArray, List.map_cons, List.map_nil]); first | done | rfl | (simp only [List.length_drop, List.length_take]; rfl)) ?_
                    with_reducible refine (customslaw33_awake.calls  t4042 _ A73.out).mono ?_
                    rintro e w91 ⟨rfl, hb⟩
                    refine ⟨_, rfl, ?_⟩
                    replace HO_0 := mvV HO_0 hb
                    replace HO_8 := mvR HO_8 hb
                    replace HO_4002000 := mvR HO_4002000 hb
                    replace HO_4002001 := mvR HO_4002001 hb
                    replace HO4028 := mvR HO4028 hb
                    replace HO4031 := mvR HO4031 hb
                    replace HO4034 := mvR HO4034 hb
                    replace HO4041 := mvR HO4041 hb
                    replace BK4001 := mvB BK4001 hb
                    replace HB := mvH HB hb
                    (try clear hb)
                    (try clear hb2)
                    (try clear hk)
                    (try clear hi)
                    refine hK.out _ _ ⟨(blk_cell BK4001.out 0).trans rfl, (blk_cell BK4001.out 1).trans rfl⟩ (fun hHeld => ?_)
                    clear hK K
                    refine norm_ (a' := ?_) ?_ ?_
                    rotate_left
                    · show Act.put _ (some 94) _ = _
                      simp only [Act.put, List.setIfInBounds_toArray, List.set_cons_zero, List.set_cons_succ, i64_w, i32_w]
                      rfl
                    refine pure_ (i := 31) (N := some 95) (v := ?_) (a' := ?_) #[true, true, true, true, true, true, true, true, true, true, true, true, true, true, true, true, true, true, true, true, true, true, true, true, true, true, true, true, true, true, true, true, false] rfl rfl (any_of HT_.out (by kernel_rfl)) (fun _ _ _ h => h) (Or.inl ⟨by rfl, ?_⟩) ?_ ?_
                    rotate_left
                    · intro w'
                      go_simp
                      with_reducible rfl
                    rotate_left
                    · simp only [Act.put, List.setIfInBounds_toArray, List.set_cons_zero, List.set_cons_succ, i64_w, i32_w]
                      rfl
                    refine pure_ (i := 32) (N := some 6) (v := ?_) (a' := ?_) #[true, true, true, true, true, true, true, true, true, true, true, true, true, true, true, true, true, true, true, true, true, true, true, true, true, true, true, true, true, true, true, true, true] rfl rfl (any_of HT_.out (by kernel_rfl)) (fun _ _ _ h => h) (Or.inl ⟨by rfl, ?_⟩) ?_ ?_
                    rotate_left
                    · intro w'
                      go_simp
                      with_reducible rfl
                    rotate_left
                    · simp only [Act.put, List.setIfInBounds_toArray, List.set_cons_zero, List.set_cons_succ, i64_w, i32_w]
                      rfl
                    refine done_ (done_of HT_.out (by kernel_rfl)) ?_
                    try go_wp2
                    go_ret
                    exact ⟨by first | rfl | (simp [errW_none, errW_some] <;> rfl) | (simp [*, errW_none, errW_some] <;> rfl), below_extB HB.out⟩
                  · rw [if_neg c72] at H
                    have c72b0 : ((strOfNums t4039).toList == (strOfNums x8_1).toList) = false := beq_eq_false_iff_ne.mpr c72
                    have c72b1 : ((strOfNums t4039).toList != (strOfNums x8_1).toList) = true := bne_iff_ne.mpr c72
                    exact absurd H (by simp)
                · rw [if_neg c70] at H
                  have c70b0 : ((strOfNums t4032).toList == (strOfNums y4035).toList) = false := beq_eq_false_iff_ne.mpr c70
                  have c70b1 : ((strOfNums t4032).toList != (strOfNums y4035).toList) = true := bne_iff_ne.mpr c70
                  exact absurd H (by simp)
              · rw [if_neg c67] at H
                have c67b0 : decide ((t4032.length : Int) ≤ (x8_1.length : Int)) = false := decide_eq_false c67
                have c67b1 : decide (t4032.length ≤ x8_1.length) = false := decide_eq_false (fun h => c67 (Int.ofNat_le.mpr h))
                clear c67
                exact absurd H (by simp)
            · rw [if_neg c66] at H
              have c66b0 : decide (x9_1 ≤ (t4032.length : Int)) = false := decide_eq_false c66
              clear c66
              exact absurd H (by simp)

end Go.Proofs.Ytfljnggpnndmkaa.Z
