/- Written by a program of this session: each Go function as a plain Lean function, and that the machine's call does what it says. Conditions: none but those each theorem states. -/
import Derived.Test.YtfljnggpnndmkaaZ0
import Derived.Test.YtfljnggpnndmkaaZcustomsref33SameBytes
import Derived.Test.YtfljnggpnndmkaaZdiskSync
import Derived.Test.YtfljnggpnndmkaaZdiskCrash
import Derived.Test.YtfljnggpnndmkaaZcustomsmadeWithin
import Derived.Test.YtfljnggpnndmkaaZjournalPut
import Derived.Test.YtfljnggpnndmkaaZjournalAppend
import Derived.Test.YtfljnggpnndmkaaZjournalOpen
import Derived.Test.YtfljnggpnndmkaaZcustomslaw34awake
import Derived.Test.YtfljnggpnndmkaaZcustomslaw34cut
import Derived.Test.YtfljnggpnndmkaaZcustomsref33SameRecords
namespace Go.Proofs.Ytfljnggpnndmkaa.Z
open Go.RowKit Go.Proofs.YtfljnggpnndmkaaW.PrintWords Go.Proofs.YtfljnggpnndmkaaW.PrintLast Go.Proofs.YtfljnggpnndmkaaW.PrintMore
attribute [local go_sem] max2_int min2_int max_two min_two max_three min_three max_four min_four   -- for this text's walks alone
set_option linter.unusedVariables false
set_option linter.unusedSimpArgs false

/-! ### customslaw34_JournalSnapshot: function 15 -/
mutual
def customslaw34_JournalSnapshot.j0 : Nat → List (List Int) → List (List Int) → List Int → List Int → Int → Bool → Option (Bool)
  | 0, _, _, _, _, _, _ => none
  | k + 1, x0, x1, x2, x3, x4, x37 => if x37 = true then ((customslaw34_awake.f k).bind fun t1160 => (some t1160)) else (customslaw34_JournalSnapshot.l0 k x0 x1 x2 x3 x4 0 ([] : List Int) ([] : List Int))
def customslaw34_JournalSnapshot.l0 : Nat → List (List Int) → List (List Int) → List Int → List Int → Int → Int → List Int → List Int → Option (Bool)
  | 0, _, _, _, _, _, _, _, _ => none
  | k + 1, x0, x1, x2, x3, x4, x12, x1162000, x1162001 => if x12 < (x0.length : Int) then (if 0 ≤ x12 then ((journal_Append.f k x1162000 x1162001 (rd_L1 x0 x12)).bind fun bt1163 => (customslaw34_JournalSnapshot.l0 k x0 x1 x2 x3 x4 (wrap64 (x12 + 1)) bt1163.1 bt1163.2.1)) else (none)) else ((journal_Put.f k x1162000 x1162001 2 x2).bind fun bt1170 => ((disk_Sync.f bt1170.1 bt1170.2.1).bind fun bt1177 => (customslaw34_JournalSnapshot.l1 k x1 x2 x3 x4 bt1170.2.2 0 bt1177.1 bt1177.2)))
def customslaw34_JournalSnapshot.l1 : Nat → List (List Int) → List Int → List Int → Int → Int → Int → List Int → List Int → Option (Bool)
  | 0, _, _, _, _, _, _, _, _ => none
  | k + 1, x1, x2, x3, x4, x13, x14, x1162000, x1162001 => if x14 < (x1.length : Int) then (if 0 ≤ x14 then ((journal_Append.f k x1162000 x1162001 (rd_L1 x1 x14)).bind fun bt1184 => (customslaw34_JournalSnapshot.l1 k x1 x2 x3 x4 x13 (wrap64 (x14 + 1)) bt1184.1 bt1184.2.1)) else (none)) else ((journal_Put.f k x1162000 x1162001 2 x3).bind fun bt1191 => ((customsmade_Within.f x4 (wrap64 ((x3.length : Int) + 9))).bind fun t1199 => ((disk_Crash.f bt1191.1 bt1191.2.1 t1199).bind fun bt1200 => ((journal_Open.f k bt1200.1 bt1200.2).bind fun bt1207 => ((disk_Sync.f bt1191.1 bt1191.2.1).bind fun bt1221 => ((journal_Open.f k bt1221.1 bt1221.2).bind fun bt1227 => (if x13 = 0 then (if bt1191.2.2 = 0 then (if bt1207.2.2.2.1 = true then ((customsref33_SameBytes.f bt1207.2.2.1 x2).bind fun t1241 => (if t1241 = true then ((customsref33_SameRecords.f k bt1207.2.2.2.2 x1).bind fun t1242 => (if t1242 = true then (if bt1227.2.2.2.1 = true then ((customsref33_SameBytes.f bt1227.2.2.1 x3).bind fun t1243 => (if t1243 = true then (if (bt1227.2.2.2.2.length : Int) = 0 then ((customslaw34_awake.f k).bind fun t1244 => (some t1244)) else (none)) else (none))) else (none)) else (none))) else (none))) else (none)) else (none)) else (none))))))))
end
def customslaw34_JournalSnapshot.f (k : Nat) (l0 : List (List Int)) (l1 : List (List Int)) (l2 : List Int) (l3 : List Int) (a4 : Int) : Option (Bool) := (customslaw34_cut.f k l0).bind fun t1154 => ((customslaw34_cut.f k l1).bind fun t1157 => (if (l2.length : Int) > 200 then (customslaw34_JournalSnapshot.j0 k t1154 t1157 l2 l3 a4 true) else (customslaw34_JournalSnapshot.j0 k t1154 t1157 l2 l3 a4 (decide ((l3.length : Int) > 200)))))
theorem customslaw34_JournalSnapshot.mono_l : ∀ k, (∀ y0 y1 y2 y3 y4 y5, LeO (customslaw34_JournalSnapshot.j0 k y0 y1 y2 y3 y4 y5) (customslaw34_JournalSnapshot.j0 (k + 1) y0 y1 y2 y3 y4 y5)) ∧ (∀ y0 y1 y2 y3 y4 y5 y6 y7, LeO (customslaw34_JournalSnapshot.l0 k y0 y1 y2 y3 y4 y5 y6 y7) (customslaw34_JournalSnapshot.l0 (k + 1) y0 y1 y2 y3 y4 y5 y6 y7)) ∧ (∀ y0 y1 y2 y3 y4 y5 y6 y7, LeO (customslaw34_JournalSnapshot.l1 k y0 y1 y2 y3 y4 y5 y6 y7) (customslaw34_JournalSnapshot.l1 (k + 1) y0 y1 y2 y3 y4 y5 y6 y7))
  | 0 => ⟨fun _ _ _ _ _ _ r h => by simp [customslaw34_JournalSnapshot.j0] at h, fun _ _ _ _ _ _ _ _ r h => by simp [customslaw34_JournalSnapshot.l0] at h, fun _ _ _ _ _ _ _ _ r h => by simp [customslaw34_JournalSnapshot.l1] at h⟩
  | k + 1 => by
    obtain ⟨ih0, ih1, ih2⟩ := customslaw34_JournalSnapshot.mono_l k
    refine ⟨?_, ?_, ?_⟩
    · intro y0 y1 y2 y3 y4 y5
      unfold customslaw34_JournalSnapshot.j0
      repeat' first
      | (with_reducible exact ih0 _ _ _ _ _ _)
      | (with_reducible exact ih1 _ _ _ _ _ _ _ _)
      | (with_reducible exact ih2 _ _ _ _ _ _ _ _)
      | (with_reducible exact customslaw34_awake.mono _)
      | (with_reducible exact customslaw34_cut.mono _ _)
      | (with_reducible exact customsref33_SameRecords.mono _ _ _)
      | (with_reducible exact journal_Append.mono _ _ _ _)
      | (with_reducible exact journal_Open.mono _ _ _)
      | (with_reducible exact journal_Put.mono _ _ _ _ _)
      | (with_reducible exact LeO.refl _)
      | (with_reducible exact LeO.none _)
      | (with_reducible refine LeO.ite ?_ ?_)
      | (with_reducible refine LeO.bind ?_ (fun _ => ?_))
      | exact ih0 _ _ _ _ _ _
      | exact ih1 _ _ _ _ _ _ _ _
      | exact ih2 _ _ _ _ _ _ _ _
      | exact customslaw34_awake.mono _
      | exact customslaw34_cut.mono _ _
      | exact customsref33_SameRecords.mono _ _ _
      | exact journal_Append.mono _ _ _ _
      | exact journal_Open.mono _ _ _
      | exact journal_Put.mono _ _ _ _ _
      | exact LeO.none _
      | refine LeO.ite ?_ ?_
      | refine LeO.bind ?_ (fun _ => ?_)
    · intro y0 y1 y2 y3 y4 y5 y6 y7
      unfold customslaw34_JournalSnapshot.l0
      repeat' first
      | (with_reducible exact ih0 _ _ _ _ _ _)
      | (with_reducible exact ih1 _ _ _ _ _ _ _ _)
      | (with_reducible exact ih2 _ _ _ _ _ _ _ _)
      | (with_reducible exact customslaw34_awake.mono _)
      | (with_reducible exact customslaw34_cut.mono _ _)
      | (with_reducible exact customsref33_SameRecords.mono _ _ _)
      | (with_reducible exact journal_Append.mono _ _ _ _)
      | (with_reducible exact journal_Open.mono _ _ _)
      | (with_reducible exact journal_Put.mono _ _ _ _ _)
      | (with_reducible exact LeO.refl _)
      | (with_reducible exact LeO.none _)
      | (with_reducible refine LeO.ite ?_ ?_)
      | (with_reducible refine LeO.bind ?_ (fun _ => ?_))
      | exact ih0 _ _ _ _ _ _
      | exact ih1 _ _ _ _ _ _ _ _
      | exact ih2 _ _ _ _ _ _ _ _
      | exact customslaw34_awake.mono _
      | exact customslaw34_cut.mono _ _
      | exact customsref33_SameRecords.mono _ _ _
      | exact journal_Append.mono _ _ _ _
      | exact journal_Open.mono _ _ _
      | exact journal_Put.mono _ _ _ _ _
      | exact LeO.none _
      | refine LeO.ite ?_ ?_
      | refine LeO.bind ?_ (fun _ => ?_)
    · intro y0 y1 y2 y3 y4 y5 y6 y7
      unfold customslaw34_JournalSnapshot.l1
      repeat' first
      | (with_reducible exact ih0 _ _ _ _ _ _)
      | (with_reducible exact ih1 _ _ _ _ _ _ _ _)
      | (with_reducible exact ih2 _ _ _ _ _ _ _ _)
      | (with_reducible exact customslaw34_awake.mono _)
      | (with_reducible exact customslaw34_cut.mono _ _)
      | (with_reducible exact customsref33_SameRecords.mono _ _ _)
      | (with_reducible exact journal_Append.mono _ _ _ _)
      | (with_reducible exact journal_Open.mono _ _ _)
      | (with_reducible exact journal_Put.mono _ _ _ _ _)
      | (with_reducible exact LeO.refl _)
      | (with_reducible exact LeO.none _)
      | (with_reducible refine LeO.ite ?_ ?_)
      | (with_reducible refine LeO.bind ?_ (fun _ => ?_))
      | exact ih0 _ _ _ _ _ _
      | exact ih1 _ _ _ _ _ _ _ _
      | exact ih2 _ _ _ _ _ _ _ _
      | exact customslaw34_awake.mono _
      | exact customslaw34_cut.mono _ _
      | exact customsref33_SameRecords.mono _ _ _
      | exact journal_Append.mono _ _ _ _
      | exact journal_Open.mono _ _ _
      | exact journal_Put.mono _ _ _ _ _
      | exact LeO.none _
      | refine LeO.ite ?_ ?_
      | refine LeO.bind ?_ (fun _ => ?_)
theorem customslaw34_JournalSnapshot.mono : ∀ a0 a1 a2 a3 a4 k, LeO (customslaw34_JournalSnapshot.f k a0 a1 a2 a3 a4) (customslaw34_JournalSnapshot.f (k + 1) a0 a1 a2 a3 a4) := by
  intro a0 a1 a2 a3 a4 k
  obtain ⟨ih0, ih1, ih2⟩ := customslaw34_JournalSnapshot.mono_l k
  unfold customslaw34_JournalSnapshot.f
  repeat' first
      | (with_reducible exact ih0 _ _ _ _ _ _)
      | (with_reducible exact ih1 _ _ _ _ _ _ _ _)
      | (with_reducible exact ih2 _ _ _ _ _ _ _ _)
      | (with_reducible exact customslaw34_awake.mono _)
      | (with_reducible exact customslaw34_cut.mono _ _)
      | (with_reducible exact customsref33_SameRecords.mono _ _ _)
      | (with_reducible exact journal_Append.mono _ _ _ _)
      | (with_reducible exact journal_Open.mono _ _ _)
      | (with_reducible exact journal_Put.mono _ _ _ _ _)
      | (with_reducible exact LeO.refl _)
      | (with_reducible exact LeO.none _)
      | (with_reducible refine LeO.ite ?_ ?_)
      | (with_reducible refine LeO.bind ?_ (fun _ => ?_))
      | exact ih0 _ _ _ _ _ _
      | exact ih1 _ _ _ _ _ _ _ _
      | exact ih2 _ _ _ _ _ _ _ _
      | exact customslaw34_awake.mono _
      | exact customslaw34_cut.mono _ _
      | exact customsref33_SameRecords.mono _ _ _
      | exact journal_Append.mono _ _ _ _
      | exact journal_Open.mono _ _ _
      | exact journal_Put.mono _ _ _ _ _
      | exact LeO.none _
      | refine LeO.ite ?_ ?_
      | refine LeO.bind ?_ (fun _ => ?_)
def customslaw34_JournalSnapshot.T8 : Bool × List (List Nat × List Nat) := (true, [([], []), ([], []), ([], []), ([1, 2], [1, 2]), ([3], [3]), ([0, 4], [0, 4]), ([5], [5]), ([6], [6]), ([6], [6]), ([7, 5, 0, 1, 2, 3, 4, 5, 6, 7], [7])])
def customslaw34_JournalSnapshot.B8 : List Nat := [0, 0, 0, 6, 14, 31, 63, 127, 127, 255]
theorem customslaw34_JournalSnapshot.tab8 : rtab .any (opsOf Try.f15 8) = customslaw34_JournalSnapshot.T8 := by kernel_rfl
theorem customslaw34_JournalSnapshot.bits8 : waitsOk customslaw34_JournalSnapshot.T8.2 customslaw34_JournalSnapshot.B8 = true := by kernel_rfl
def customslaw34_JournalSnapshot.T14 : Bool × List (List Nat × List Nat) := (true, [([], []), ([], []), ([], []), ([1, 2], [1, 2]), ([3], [3]), ([0, 4], [0, 4]), ([5], [5]), ([6], [6]), ([6], [6]), ([7, 5, 0, 1, 2, 3, 4, 5, 6, 7], [7])])
def customslaw34_JournalSnapshot.B14 : List Nat := [0, 0, 0, 6, 14, 31, 63, 127, 127, 255]
theorem customslaw34_JournalSnapshot.tab14 : rtab .any (opsOf Try.f15 14) = customslaw34_JournalSnapshot.T14 := by kernel_rfl
theorem customslaw34_JournalSnapshot.bits14 : waitsOk customslaw34_JournalSnapshot.T14.2 customslaw34_JournalSnapshot.B14 = true := by kernel_rfl
def customslaw34_JournalSnapshot.T16 : Bool × List (List Nat × List Nat) := (true, [([], []), ([], []), ([], []), ([2], [2]), ([3], [3]), ([1, 4], [1, 4]), ([0, 5, 5], [0, 5]), ([], []), ([7, 6, 6, 0, 1, 2, 3, 4, 5, 6, 7], [6, 7])])
def customslaw34_JournalSnapshot.B16 : List Nat := [0, 0, 0, 4, 12, 30, 63, 0, 255]
theorem customslaw34_JournalSnapshot.tab16 : rtab .any (opsOf Try.f15 16) = customslaw34_JournalSnapshot.T16 := by kernel_rfl
theorem customslaw34_JournalSnapshot.bits16 : waitsOk customslaw34_JournalSnapshot.T16.2 customslaw34_JournalSnapshot.B16 = true := by kernel_rfl
set_option maxHeartbeats 8000000 in
set_option maxRecDepth 100000 in
theorem customslaw34_JournalSnapshot.calls (k : Nat) (A0 : Option Addr) (c0 : Nat) (l0 : List (List Int)) (A1 : Option Addr) (c1 : Nat) (l1 : List (List Int)) (A2 : Option Addr) (c2 : Nat) (l2 : List Int) (A3 : Option Addr) (c3 : Nat) (l3 : List Int) (a4 : Int) (r : Bool) (w : World) (hr0 : Kd.C (Kd.slice 5 (Kd.int .u8)) w A0 l0.length l0) (hc0 : l0.length ≤ c0) (hr1 : Kd.C (Kd.slice 5 (Kd.int .u8)) w A1 l1.length l1) (hc1 : l1.length ≤ c1) (hr2 : Kd.C (Kd.int .u8) w A2 l2.length l2) (hc2 : l2.length ≤ c2) (hr3 : Kd.C (Kd.int .u8) w A3 l3.length l3) (hc3 : l3.length ≤ c3) (h : customslaw34_JournalSnapshot.f k l0 l1 l2 l3 a4 = some r) :
    Calls Try.prog 15 #[.slice A0 l0.length c0, .slice A1 l1.length c1, .slice A2 l2.length c2, .slice A3 l3.length c3, .int .i64 a4] w fun e w' => e = .returned (.bool r) ∧ Below w.heap.size w w' := by
  have hu24 := Try.underlying24
  have hu57 := Try.underlying57
  have HR0 := Aside0.mk hr0
  have HC0 := Aside0.mk hc0
  clear hr0 hc0
  have HR1 := Aside0.mk hr1
  have HC1 := Aside0.mk hc1
  clear hr1 hc1
  have HR2 := Aside0.mk hr2
  have HC2 := Aside0.mk hc2
  clear hr2 hc2
  have HR3 := Aside0.mk hr3
  have HC3 := Aside0.mk hc3
  clear hr3 hc3
  have HB := Aside0.mk (Below.refl w.heap.size w)
  have H : ((customslaw34_cut.f k l0).bind fun t1154 => ((customslaw34_cut.f k l1).bind fun t1157 => (if (l2.length : Int) > 200 then (customslaw34_JournalSnapshot.j0 k t1154 t1157 l2 l3 a4 true) else (customslaw34_JournalSnapshot.j0 k t1154 t1157 l2 l3 a4 (decide ((l3.length : Int) > 200)))))) = some r := h
  clear h
  replace H := Option.bind_eq_some_iff.mp H
  obtain ⟨t1154, A60, H⟩ := H
  replace H : ((customslaw34_cut.f k l1).bind fun t1157 => (if (l2.length : Int) > 200 then (customslaw34_JournalSnapshot.j0 k t1154 t1157 l2 l3 a4 true) else (customslaw34_JournalSnapshot.j0 k t1154 t1157 l2 l3 a4 (decide ((l3.length : Int) > 200))))) = some r := H
  have A6 := Aside0.mk A60
  clear A60
  replace H := Option.bind_eq_some_iff.mp H
  obtain ⟨t1157, A70, H⟩ := H
  replace H : (if (l2.length : Int) > 200 then (customslaw34_JournalSnapshot.j0 k t1154 t1157 l2 l3 a4 true) else (customslaw34_JournalSnapshot.j0 k t1154 t1157 l2 l3 a4 (decide ((l3.length : Int) > 200)))) = some r := H
  have A7 := Aside0.mk A70
  clear A70
  have HC8 := Aside0.mk H
  clear H
  go_enter Try.func15, Try.ntmps15
  go_upto_region 2 with (first | ((with_reducible refine gate_callee (f := 56) rfl ?_); refine goesL_ (some 27) rfl rfl Try.func56 (by kernel_rfl) rfl #[.slice A0 l0.length c0] rfl (by (try simp only [List.map_toArray, List.map_cons, List.map_nil]); first | done | rfl | (simp only [List.length_drop, List.length_take]; rfl)) ?_; (with_reducible refine (customslaw34_cut.calls k (fun k_ => k_ < w.heap.size) _ _ l0 t1154 _ ?side1 A6.out).mono ?_); (case side1 => exact Kd.V_mk HC0.out (Kd.F_below (Kd.C_F (Kd.heap_slice 5 (Kd.heap_int .u8)) HR0.out) (by repeat (first | (with_reducible first | exact HB.out | apply below_alloc | apply pw_below_drewN | apply below_drew1) | exact HB.out)))); rintro e w9 ⟨v1155, rfl, ho0, hb⟩; refine ⟨_, rfl, ?_⟩; have n0_ := Aside0.mk (Kd.N_lower (Kd.N_mono (ok' := fun k_ => True) ho0 (fun k_ hk_ => trivial)) (below_size (by repeat (first | (with_reducible first | exact HB.out | apply below_alloc | apply pw_below_drewN | apply below_drew1) | exact HB.out)))); have n1_ := Aside0.mk (below_step (by repeat (first | (with_reducible first | exact HB.out | apply below_alloc | apply pw_below_drewN | apply below_drew1) | exact HB.out)) hb); clear HB; have HO1156 := n0_; have HB := n1_; clear n0_ n1_; (try clear hb); (try clear hb2); (try clear hk); (try clear hi); (try clear ho0)) | ((with_reducible refine gate_callee (f := 56) rfl ?_); refine goesL_ (some 29) rfl rfl Try.func56 (by kernel_rfl) rfl #[.slice A1 l1.length c1] rfl (by (try simp only [List.map_toArray, List.map_cons, List.map_nil]); first | done | rfl | (simp only [List.length_drop, List.length_take]; rfl)) ?_; (with_reducible refine (customslaw34_cut.calls k (fun k_ => k_ < w.heap.size) _ _ l1 t1157 _ ?side1 A7.out).mono ?_); (case side1 => exact Kd.V_mk HC1.out (Kd.F_below (Kd.C_F (Kd.heap_slice 5 (Kd.heap_int .u8)) HR1.out) (by repeat (first | (with_reducible first | exact HB.out | apply below_alloc | apply pw_below_drewN | apply below_drew1) | exact HB.out)))); rintro e w10 ⟨v1158, rfl, ho0, hb⟩; refine ⟨_, rfl, ?_⟩; have n0_ := Aside0.mk (Kd.N_elder' (by (with_reducible repeat (first | apply Kd.N_alloc | apply Kd.N_drewN | apply Kd.N_drew)); exact HO1156.out) (Kd.N_base ho0) hb); have n1_ := Aside0.mk (Kd.N_lower (Kd.N_mono (ok' := fun k_ => some k_ ≠ (v1155 : Value).ownBlock) ho0 (fun k_ hk_ => Or.elim hk_ (fun hs_ => fun e_ => Nat.not_le.2 hs_ (Kd.N_base HO1156.out k_ e_.symm)) (fun hn_ => (Kd.fresh' (Kd.N_lt (by (with_reducible repeat (first | apply Kd.N_alloc | apply Kd.N_drewN | apply Kd.N_drew)); exact HO1156.out)) k_ hn_)))) (below_size (by repeat (first | (with_reducible first | exact HB.out | apply below_alloc | apply pw_below_drewN | apply below_drew1) | exact HB.out)))); have n2_ := Aside0.mk (below_step (by repeat (first | (with_reducible first | exact HB.out | apply below_alloc | apply pw_below_drewN | apply below_drew1) | exact HB.out)) hb); clear HO1156; clear HB; have HO1156 := n0_; have HO1159 := n1_; have HB := n2_; clear n0_ n1_ n2_; (try clear hb); (try clear hb2); (try clear hk); (try clear hi); (try clear ho0)))
  (try simp only [Act.put, List.setIfInBounds_toArray, List.set_cons_zero, List.set_cons_succ])
  go_cut [37] (fun v37 wc => ∃ (kq : Nat) (x37_7 : Bool), v37 = .bool x37_7 ∧ Aside0 (customslaw34_JournalSnapshot.j0 kq t1154 t1157 l2 l3 a4 x37_7 = some r) ∧ Aside0 (kq ≤ k) ∧ Aside0 (Kd.N (Kd.slice 5 (Kd.int .u8)) 22 wc w.heap.size (fun k_ => some k_ ≠ (v1158 : Value).ownBlock) v1155 t1154) ∧ Aside0 (Kd.N (Kd.slice 5 (Kd.int .u8)) 22 wc w.heap.size (fun k_ => some k_ ≠ (v1155 : Value).ownBlock) v1158 t1157) ∧ Aside0 (Below w.heap.size w wc))
  case first =>
    have H := HC8.out
    clear HC8
    by_cases c11 : (l2.length : Int) > 200
    · rw [if_pos c11] at H
      have c11b0 : decide (200 < (l2.length : Int)) = true := decide_eq_true c11
      have c11b1 : decide (200 < l2.length) = true := decide_eq_true (by omega)
      clear c11
      (first | rw [c11b0] | (simp only [i64_w, i32_w]; rw [c11b0]) | skip)
      have H' := Aside0.mk H
      clear H
      go_wp2
      go_meet
      case rel => exact ⟨_, (true), (by first | rfl | (simp; done) | (simp [*]; done)), H', ⟨by first | omega | exact Nat.le_refl _⟩, ⟨by (with_reducible repeat (first | apply Kd.N_alloc | apply Kd.N_drewN | apply Kd.N_drew)); exact Kd.N_mono HO1156.out (fun _ hk => hk.2)⟩, ⟨by (with_reducible repeat (first | apply Kd.N_alloc | apply Kd.N_drewN | apply Kd.N_drew)); exact HO1159.out⟩, ⟨by repeat (first | (with_reducible first | exact HB.out | apply below_alloc | apply pw_below_drewN | apply below_drew1) | exact HB.out)⟩⟩
    · rw [if_neg c11] at H
      have c11b0 : decide (200 < (l2.length : Int)) = false := decide_eq_false c11
      have c11b1 : decide (200 < l2.length) = false := decide_eq_false (by omega)
      clear c11
      (first | rw [c11b0] | (simp only [i64_w, i32_w]; rw [c11b0]) | skip)
      have H' := Aside0.mk H
      clear H
      go_wp2
      go_meet
      case rel => exact ⟨_, (decide ((l3.length : Int) > 200)), (by first | rfl | (simp; done) | (simp [*]; done)), H', ⟨by first | omega | exact Nat.le_refl _⟩, ⟨by (with_reducible repeat (first | apply Kd.N_alloc | apply Kd.N_drewN | apply Kd.N_drew)); exact Kd.N_mono HO1156.out (fun _ hk => hk.2)⟩, ⟨by (with_reducible repeat (first | apply Kd.N_alloc | apply Kd.N_drewN | apply Kd.N_drew)); exact HO1159.out⟩, ⟨by repeat (first | (with_reducible first | exact HB.out | apply below_alloc | apply pw_below_drewN | apply below_drew1) | exact HB.out)⟩⟩
  case rest =>
    clear HC8
    try clear c1
    try clear c2
    try clear p2
    try clear c3
    try clear c5
    try clear c11
    try clear c11b0
    try clear c11b1
    obtain ⟨kq, x37_7, rfl, HA, HJ7, HO_0, HO_1, HB⟩ := hcut
    cases kq with
    | zero => exact absurd HA.out (by simp [customslaw34_JournalSnapshot.j0])
    | succ kj7 =>
      have H := HA.out
      clear HA
      simp only [customslaw34_JournalSnapshot.j0] at H
      by_cases c12 : x37_7 = true
      · subst c12
        have H1 : ((customslaw34_awake.f kj7).bind fun t1160 => (some t1160)) = some r := by rw [if_pos rfl] at H; exact H
        clear H
        have H := H1
        clear H1
        replace H := Option.bind_eq_some_iff.mp H
        obtain ⟨t1160, A130, H⟩ := H
        replace H : (some t1160) = some r := H
        have A13 := Aside0.mk A130
        clear A130
        obtain rfl := Option.some.inj H
        go_wp2_with (first | ((with_reducible refine gate_callee (f := 55) rfl ?_); refine goesL_ (some 38) rfl rfl Try.func55 (by kernel_rfl) rfl #[] rfl (by (try simp only [List.map_toArray, List.map_cons, List.map_nil]); first | done | rfl | (simp only [List.length_drop, List.length_take]; rfl)) ?_; (with_reducible refine (customslaw34_awake.calls kj7  t1160 _ A13.out).mono ?_); rintro e w14 ⟨rfl, hb⟩; refine ⟨_, rfl, ?_⟩; have n0_ := Aside0.mk (Kd.N_below (by (with_reducible repeat (first | apply Kd.N_alloc | apply Kd.N_drewN | apply Kd.N_drew)); exact HO_0.out) hb); have n1_ := Aside0.mk (Kd.N_below (by (with_reducible repeat (first | apply Kd.N_alloc | apply Kd.N_drewN | apply Kd.N_drew)); exact HO_1.out) hb); have n2_ := Aside0.mk (below_step (by repeat (first | (with_reducible first | exact HB.out | apply below_alloc | apply pw_below_drewN | apply below_drew1) | exact HB.out)) hb); clear HO_0; clear HO_1; clear HB; have HO_0 := n0_; have HO_1 := n1_; have HB := n2_; clear n0_ n1_ n2_; (try clear hb); (try clear hb2); (try clear hk); (try clear hi)))
        go_ret
        exact ⟨by first | rfl | (simp [errW_none, errW_some] <;> rfl) | (simp [*, errW_none, errW_some] <;> rfl), by repeat (first | (with_reducible first | exact HB.out | apply below_alloc | apply pw_below_drewN | apply below_drew1) | exact HB.out)⟩
      · replace c12 := Bool.eq_false_iff.mpr c12
        subst c12
        have H1 : (customslaw34_JournalSnapshot.l0 kj7 t1154 t1157 l2 l3 a4 0 ([] : List Int) ([] : List Int)) = some r := by rw [if_neg (show ¬ (false = true) by decide)] at H; exact H
        clear H
        have H := H1
        clear H1
        have H' := Aside0.mk H
        clear H
        go_wp2_with (first | ((with_reducible refine gate_dst (N := 11) rfl ?_); (try (refine gate_guard (by rfl) ?_; dsimp only)); refine box_event ?hg (N := 11) ?hd (cs := #[.slice none 0 0, .slice none 0 0]) (t := 24) ?hr ?_; (case hd => rfl); (case hg => rfl); (case hr => first | (go_simp; done) | (go_simp; rfl)); intro gb1161 hg w15 hbox hb; have n0_ := Aside0.mk (Kd.N_below (Kd.N_elderB (by (with_reducible repeat (first | apply Kd.N_alloc | apply Kd.N_drewN | apply Kd.N_drew)); exact HO_0.out) gb1161 (Nat.le_of_eq hg.symm)) hb); have n1_ := Aside0.mk (Kd.N_below (Kd.N_elderB (by (with_reducible repeat (first | apply Kd.N_alloc | apply Kd.N_drewN | apply Kd.N_drew)); exact HO_1.out) gb1161 (Nat.le_of_eq hg.symm)) hb); have n2_ := Aside0.mk (below_step (by repeat (first | (with_reducible first | exact HB.out | apply below_alloc | apply pw_below_drewN | apply below_drew1) | exact HB.out)) hb); have n3_ := Aside0.mk (hbox); have n4_ := Aside0.mk ((by rw [hg]; exact (below_size (by repeat (first | (with_reducible first | exact HB.out | apply below_alloc | apply pw_below_drewN | apply below_drew1) | exact HB.out))) : w.heap.size ≤ gb1161)); have n5_ := Aside0.mk ((by rw [hg]; exact (below_size (by repeat (first | (with_reducible first | exact HB.out | apply below_alloc | apply pw_below_drewN | apply below_drew1) | exact HB.out))) : w.heap.size ≤ gb1161)); clear HO_0; clear HO_1; clear HB; have HO_0 := n0_; have HO_1 := n1_; have HB := n2_; have BK1161 := n3_; have GW1161 := n4_; have GE1161 := n5_; clear n0_ n1_ n2_ n3_ n4_ n5_; clear hb hbox hg))
        go_loopg [12] kj7 (fun kq v12 w' => ∃ (x12_2 : Int) (x1162000_2 : List Int) (x1162001_2 : List Int) (u1162000 : Value) (u1162001 : Value), v12 = .int .i64 x12_2 ∧ Aside0 (customslaw34_JournalSnapshot.l0 kq t1154 t1157 l2 l3 a4 x12_2 x1162000_2 x1162001_2 = some r) ∧ Aside0 (kq ≤ kj7) ∧ Aside0 (Kd.N (Kd.slice 5 (Kd.int .u8)) 22 w' w.heap.size (fun k_ => some k_ ≠ (v1158 : Value).ownBlock ∧ some k_ ≠ (u1162000 : Value).ownBlock ∧ some k_ ≠ (u1162001 : Value).ownBlock ∧ k_ ≠ gb1161) v1155 t1154) ∧ Aside0 (Kd.N (Kd.slice 5 (Kd.int .u8)) 22 w' w.heap.size (fun k_ => some k_ ≠ (v1155 : Value).ownBlock ∧ some k_ ≠ (u1162000 : Value).ownBlock ∧ some k_ ≠ (u1162001 : Value).ownBlock ∧ k_ ≠ gb1161) v1158 t1157) ∧ Aside0 (Kd.R (Kd.int .u8) 5 w' w.heap.size (fun k_ => some k_ ≠ (u1162001 : Value).ownBlock) u1162000 x1162000_2) ∧ Aside0 (Kd.R (Kd.int .u8) 5 w' w.heap.size (fun k_ => some k_ ≠ (u1162000 : Value).ownBlock) u1162001 x1162001_2) ∧ Aside0 (w'.heap[gb1161]? = some (.cells #[u1162000, u1162001] 24 (0, 0))) ∧ Aside0 (Below w.heap.size w w'))
        case atStart => exact ⟨(0), (([] : List Int)), (([] : List Int)), (.slice none 0 0), (.slice none 0 0), (by first | rfl | (simp; done) | (simp [*]; done)), H', ⟨Nat.le_refl _⟩, ⟨by (with_reducible repeat (first | apply Kd.N_alloc | apply Kd.N_drewN | apply Kd.N_drew)); exact Kd.N_mono HO_0.out (fun _ hk => ⟨hk.1, ⟨(by simp [Value.ownBlock]), ⟨(by simp [Value.ownBlock]), hk.2⟩⟩⟩)⟩, ⟨by (with_reducible repeat (first | apply Kd.N_alloc | apply Kd.N_drewN | apply Kd.N_drew)); exact Kd.N_mono HO_1.out (fun _ hk => ⟨hk.1, ⟨(by simp [Value.ownBlock]), ⟨(by simp [Value.ownBlock]), hk.2⟩⟩⟩)⟩, ⟨by first | exact Kd.R_nil _ _ _ _ _ | exact Kd.N_nil _ _ _ _ _ | exact Kd.V_nil _ _ _ _ _ | exact Kd.Q_nil _ _ _ _ _ | exact Kd.S_nil _ _ _ _ _⟩, ⟨by first | exact Kd.R_nil _ _ _ _ _ | exact Kd.N_nil _ _ _ _ _ | exact Kd.V_nil _ _ _ _ _ | exact Kd.Q_nil _ _ _ _ _ | exact Kd.S_nil _ _ _ _ _⟩, ⟨by (with_reducible repeat (first | refine blk_drewN ?_ _ | refine blk_drew ?_ | refine blk_alloc ?_ _)); exact BK1161.out⟩, ⟨by repeat (first | (with_reducible first | exact HB.out | apply below_alloc | apply pw_below_drewN | apply below_drew1 | refine below_set ?_ GE1161.out) | exact HB.out)⟩⟩
        case round =>
          clear H'
          try clear c1
          try clear c2
          try clear p2
          try clear c3
          try clear c5
          try clear c11
          try clear c11b0
          try clear c11b1
          try clear c12
          try clear c15
          try clear p2
          obtain ⟨x12_2, x1162000_2, x1162001_2, u1162000, u1162001, rfl, HA, HK2, HO_0, HO_1, HO_1162000, HO_1162001, BK1161, HB⟩ := hrel
          cases gk with
          | zero => exact absurd HA.out (by simp [customslaw34_JournalSnapshot.l0])
          | succ k2 =>
            have H := HA.out
            clear HA
            simp only [customslaw34_JournalSnapshot.l0] at H
            by_cases c16 : x12_2 < (t1154.length : Int)
            · rw [if_pos c16] at H
              have c16b0 : decide (x12_2 < (t1154.length : Int)) = true := decide_eq_true c16
              clear c16
              by_cases c17 : 0 ≤ x12_2
              · rw [if_pos c17] at H
                have c17b0 : decide (0 ≤ x12_2) = true := decide_eq_true c17
                clear c17
                replace H := Option.bind_eq_some_iff.mp H
                obtain ⟨⟨t1163, t1166, t1169⟩, A180, H⟩ := H
                replace H : (customslaw34_JournalSnapshot.l0 k2 t1154 t1157 l2 l3 a4 (wrap64 (x12_2 + 1)) t1163 t1166) = some r := H
                have A18 := Aside0.mk A180
                clear A180
                have H' := Aside0.mk H
                clear H
                obtain ⟨Ao19, co19, eo19⟩ := Kd.N_slice HO_0.out
                subst eo19
                try go_wp2
                have n0_ := Aside0.mk (Kd.N_drew HO_0.out)
                have n1_ := Aside0.mk (Kd.N_drew HO_1.out)
                have n2_ := Aside0.mk (Kd.R_drew HO_1162000.out)
                have n3_ := Aside0.mk (Kd.R_drew HO_1162001.out)
                have n4_ := Aside0.mk (blk_drew BK1161.out)
                have n5_ := Aside0.mk (below_drew1 HB.out)
                clear HO_0
                clear HO_1
                clear HO_1162000
                clear HO_1162001
                clear BK1161
                clear HB
                have HO_0 := n0_
                have HO_1 := n1_
                have HO_1162000 := n2_
                have HO_1162001 := n3_
                have BK1161 := n4_
                have HB := n5_
                clear n0_ n1_ n2_ n3_ n4_ n5_
                have p1162 : 0 ≤ (x12_2 : Int) := of_decide_eq_true (by first | (with_reducible assumption) | assumption)
                have q1162 : x12_2 < (t1154.length : Int) := of_decide_eq_true (by first | (with_reducible assumption) | assumption)
                obtain ⟨ad1162, A1162_0, c1162_0, e1162, hx1162_0, hl1162_0, hi1162_0⟩ := at_L1 (Kd.N_reads' HO_0.out).2.2 x12_2 p1162 q1162
                cases e1162
                obtain ⟨ce1162, hce1162, hMe1162, hcc1162⟩ := Kd.N_get HO_0.out [] x12_2 p1162 (by first | exact q1162 | exact of_decide_eq_true (by first | (with_reducible assumption) | assumption) | (have e_ := (Kd.N_reads' HO_0.out).1; omega))
                obtain ⟨ua1162_0, uc1162_0, rfl, ul1162_0, ge1162_0⟩ := Kd.FK_slice_open hMe1162
                have hv1162_0 := hcc1162 0 _ rfl
                rw [Nat.add_zero, show ((Kd.slice 5 (Kd.int .u8))).sz = 1 from rfl, Nat.mul_one] at hv1162_0
                replace hv1162_0 := Option.some.inj (hv1162_0.symm.trans hx1162_0)
                injection hv1162_0 with hva_ hvn_ hvc_
                rw [hva_] at ge1162_0
                rw [hvc_] at ul1162_0
                have HL1162_0 := Aside0.mk (show Kd.V (Kd.int .u8) 5 _ w.heap.size _ _ (rd_L1 t1154 x12_2) from Kd.V_mk ul1162_0 ge1162_0)
                clear hva_ hvn_ hvc_ ge1162_0 ul1162_0
                clear hcc1162 hce1162
                have HR1162_0 := Aside0.mk hi1162_0
                have HC1162_0 := Aside0.mk hl1162_0
                clear hi1162_0 hl1162_0
                replace p1162 := eq_true p1162
                replace q1162 := eq_true q1162
                obtain ⟨Ao21, co21, eo21⟩ := Kd.R_slice HO_1162000.out
                (first | subst eo21 | (injection eo21 with f1_ f2_ f3_; have f4_ := f1_.symm; have f5_ := f3_.symm; clear f1_ f2_ f3_; subst f4_; subst f5_))
                obtain ⟨Ao22, co22, eo22⟩ := Kd.R_slice HO_1162001.out
                (first | subst eo22 | (injection eo22 with f1_ f2_ f3_; have f4_ := f1_.symm; have f5_ := f3_.symm; clear f1_ f2_ f3_; subst f4_; subst f5_))
                refine start_ (n := 10) (S := fun w' => w'.cell? ⟨gb1161, 0, none⟩ = some (.slice Ao21 x1162000_2.length co21) ∧ w'.cell? ⟨gb1161, 1, none⟩ = some (.slice Ao22 x1162001_2.length co22) ∧ w'.cell? (ad1162.add (x12_2).toNat) = some (.slice A1162_0 (rd_L1 t1154 x12_2).length c1162_0)) (ds := [9]) #[false, false, false, false, false, false, false, false, false, false] (by kernel_rfl) rfl rfl ⟨(blk_cell BK1161.out 0).trans rfl, (blk_cell BK1161.out 1).trans rfl, hx1162_0⟩ (fun hHeld => ?_); refine with_tabW customslaw34_JournalSnapshot.tab8 customslaw34_JournalSnapshot.bits8 (fun HT_ HW_ => ?_)
                generalize wr.drew = w20 at HO_0 HO_1 HO_1162000 HO_1162001 BK1161 HB HL1162_0 HR1162_0 hx1162_0 hHeld ⊢
                refine pure_ (i := 1) (N := some 47) (v := ?_) (a' := ?_) #[false, true, false, false, false, false, false, false, false, false] rfl rfl (any_of HT_.out (by kernel_rfl)) (fun _ _ _ h => h) (Or.inl ⟨by rfl, ?_⟩) ?_ ?_
                rotate_left
                · intro w'
                  go_simp
                  with_reducible rfl
                rotate_left
                · simp only [Act.put, List.setIfInBounds_toArray, List.set_cons_zero, List.set_cons_succ, i64_w, i32_w]
                  rfl
                refine pure_ (i := 2) (N := some 48) (v := ?_) (a' := ?_) #[false, true, true, false, false, false, false, false, false, false] rfl rfl (any_of HT_.out (by kernel_rfl)) (fun _ _ _ h => h) (Or.inl ⟨by rfl, ?_⟩) ?_ ?_
                rotate_left
                · intro w'
                  go_simp
                  with_reducible rfl
                rotate_left
                · simp only [Act.put, List.setIfInBounds_toArray, List.set_cons_zero, List.set_cons_succ, i64_w, i32_w]
                  rfl
                refine pure_ (i := 3) (N := some 49) (v := ?_) (a' := ?_) #[false, true, true, true, false, false, false, false, false, false] rfl rfl (any_of HT_.out (by kernel_rfl)) (fun _ _ _ h => h) (Or.inl ⟨by rfl, ?_⟩) ?_ ?_
                rotate_left
                · intro w'
                  go_simp
                  with_reducible rfl
                rotate_left
                · simp only [Act.put, List.setIfInBounds_toArray, List.set_cons_zero, List.set_cons_succ, i64_w, i32_w]
                  rfl
                refine take_ (i := 0) (N := some 46) (v := ?_) (a' := ?_) #[true, true, true, true, false, false, false, false, false, false] rfl rfl (take_ofW HT_.out HW_.out (by kernel_rfl)) (fun _ _ _ h => h) (Or.inl ⟨by rfl, ?_⟩) hHeld ?_ ?_
                rotate_left
                · rintro w' ⟨s0, s1, s2⟩
                  go_simp
                  with_reducible rfl
                rotate_left
                · simp only [Act.put, List.setIfInBounds_toArray, List.set_cons_zero, List.set_cons_succ, i64_w, i32_w]
                  rfl
                refine take_ (i := 4) (N := some 50) (v := ?_) (a' := ?_) #[true, true, true, true, true, false, false, false, false, false] rfl rfl (take_ofW HT_.out HW_.out (by kernel_rfl)) (fun _ _ _ h => h) (Or.inl ⟨by rfl, ?_⟩) hHeld ?_ ?_
                rotate_left
                · rintro w' ⟨s0, s1, s2⟩
                  go_simp
                  with_reducible rfl
                rotate_left
                · simp only [Act.put, List.setIfInBounds_toArray, List.set_cons_zero, List.set_cons_succ, i64_w, i32_w]
                  rfl
                refine one_ (i := 5) (N := some 51) #[true, true, true, true, true, true, false, false, false, false] rfl rfl (one_of HT_.out (by kernel_rfl)) (by decide) (fun K hK => ?_)
                refine goes_ Try.func59 (by kernel_rfl) rfl #[.agg #[.slice Ao21 x1162000_2.length co21, .slice Ao22 x1162001_2.length co22], .slice A1162_0 (rd_L1 t1154 x12_2).length c1162_0] (by rfl) rfl rfl (by (try simp only [List.map_toArray, List.map_cons, List.map_nil]); first | done | rfl | (simp only [List.length_drop, List.length_take]; rfl)) ?_
                with_reducible refine (journal_Append.calls k2 _ _ x1162000_2 _ _ x1162001_2 _ _ (rd_L1 t1154 x12_2) t1163 t1166 t1169 _ ?side1 ?side2 ?side3 ?side4 ?side5 ?side6 A18.out).mono ?_
                (case side1 => repeat (first | exact (Kd.R_reads' HO_1162000.out).2.2 | (with_reducible refine Kd.C_alloc ?_ _) | (with_reducible refine Kd.C_drewN ?_ _) | (with_reducible refine Kd.C_drew ?_)))
                (case side2 => exact (Kd.R_reads' HO_1162000.out).2.1)
                (case side3 => repeat (first | exact (Kd.R_reads' HO_1162001.out).2.2 | (with_reducible refine Kd.C_alloc ?_ _) | (with_reducible refine Kd.C_drewN ?_ _) | (with_reducible refine Kd.C_drew ?_)))
                (case side4 => exact (Kd.R_reads' HO_1162001.out).2.1)
                (case side5 => repeat (first | exact (by repeat (first | (with_reducible exact HR1162_0.out) | (with_reducible refine Kd.C_alloc ?_ _) | (with_reducible refine Kd.C_drewN ?_ _) | (with_reducible refine Kd.C_drew ?_) | exact HR1162_0.out)) | (with_reducible refine Kd.C_alloc ?_ _) | (with_reducible refine Kd.C_drewN ?_ _) | (with_reducible refine Kd.C_drew ?_)))
                (case side6 => exact HC1162_0.out)
                rintro e w23 ⟨v1164, v1167, rfl, ho0, ho1, hb⟩
                have HS2_ := (hb.cell (World.block_lt_of_cell? _ _ (hHeld.2.2))).trans (hHeld.2.2)
                refine ⟨_, rfl, ?_⟩
                have n0_ := Aside0.mk (Kd.N_mono (Kd.N_told (Kd.N_told (Kd.N_old (by (with_reducible repeat (first | apply Kd.N_alloc | apply Kd.N_drewN | apply Kd.N_drew)); exact HO_0.out) hb) (Kd.R_base ho0)) (Kd.R_base ho1)) (fun _ h_ => h_.1))
                have n1_ := Aside0.mk (Kd.N_mono (Kd.N_told (Kd.N_told (Kd.N_old (by (with_reducible repeat (first | apply Kd.N_alloc | apply Kd.N_drewN | apply Kd.N_drew)); exact HO_1.out) hb) (Kd.R_base ho0)) (Kd.R_base ho1)) (fun _ h_ => h_.1))
                have n2_ := Aside0.mk (Kd.R_mono (Kd.R_told (Kd.R_told (Kd.R_old (by (with_reducible repeat (first | apply Kd.R_alloc | apply Kd.R_drewN | apply Kd.R_drew)); exact HO_1162000.out) hb) (Kd.R_base ho0)) (Kd.R_base ho1)) (fun _ h_ => h_.1))
                have n3_ := Aside0.mk (Kd.R_mono (Kd.R_told (Kd.R_told (Kd.R_old (by (with_reducible repeat (first | apply Kd.R_alloc | apply Kd.R_drewN | apply Kd.R_drew)); exact HO_1162001.out) hb) (Kd.R_base ho0)) (Kd.R_base ho1)) (fun _ h_ => h_.1))
                have n4_ := Aside0.mk (Kd.V_mono (Kd.V_told (Kd.V_told (Kd.V_old (by (with_reducible repeat (first | apply Kd.V_alloc | apply Kd.V_drewN | apply Kd.V_drew)); exact HL1162_0.out) hb) (Kd.R_base ho0)) (Kd.R_base ho1)) (fun _ h_ => h_.1))
                have n5_ := Aside0.mk (Kd.R_lower (Kd.R_new' (Kd.R_new' ho0 (Kd.R_lt (by (with_reducible repeat (first | apply Kd.R_alloc | apply Kd.R_drewN | apply Kd.R_drew)); exact HO_1162000.out))) (Kd.R_lt (by (with_reducible repeat (first | apply Kd.R_alloc | apply Kd.R_drewN | apply Kd.R_drew)); exact HO_1162001.out))) (below_size (by repeat (first | (with_reducible first | exact HB.out | apply below_alloc | apply pw_below_drewN | apply below_drew1 | refine below_set ?_ GE1161.out) | exact HB.out))))
                have n6_ := Aside0.mk (Kd.R_lower (Kd.R_new' (Kd.R_new' ho1 (Kd.R_lt (by (with_reducible repeat (first | apply Kd.R_alloc | apply Kd.R_drewN | apply Kd.R_drew)); exact HO_1162000.out))) (Kd.R_lt (by (with_reducible repeat (first | apply Kd.R_alloc | apply Kd.R_drewN | apply Kd.R_drew)); exact HO_1162001.out))) (below_size (by repeat (first | (with_reducible first | exact HB.out | apply below_alloc | apply pw_below_drewN | apply below_drew1 | refine below_set ?_ GE1161.out) | exact HB.out))))
                have n7_ := Aside0.mk (blk_below (g := gb1161) (o := .cells #[.slice Ao21 x1162000_2.length co21, .slice Ao22 x1162001_2.length co22] 24 (0, 0)) (by (with_reducible repeat (first | refine blk_drewN ?_ _ | refine blk_drew ?_ | refine blk_alloc ?_ _)); exact BK1161.out) hb)
                have n8_ := Aside0.mk (Kd.C_below (by repeat (first | (with_reducible exact HR1162_0.out) | (with_reducible refine Kd.C_alloc ?_ _) | (with_reducible refine Kd.C_drewN ?_ _) | (with_reducible refine Kd.C_drew ?_) | exact HR1162_0.out)) hb)
                have n9_ := Aside0.mk (below_step (by repeat (first | (with_reducible first | exact HB.out | apply below_alloc | apply pw_below_drewN | apply below_drew1 | refine below_set ?_ GE1161.out) | exact HB.out)) hb)
                clear HO_0
                clear HO_1
                clear HO_1162000
                clear HO_1162001
                clear HL1162_0
                clear BK1161
                clear HR1162_0
                clear HB
                have HO_0 := n0_
                have HO_1 := n1_
                have HO_1162000 := n2_
                have HO_1162001 := n3_
                have HL1162_0 := n4_
                have HO1165 := n5_
                have HO1168 := n6_
                have BK1161 := n7_
                have HR1162_0 := n8_
                have HB := n9_
                clear n0_ n1_ n2_ n3_ n4_ n5_ n6_ n7_ n8_ n9_
                (try clear hb)
                (try clear hb2)
                (try clear hk)
                (try clear hi)
                (try clear ho0)
                (try clear ho1)
                obtain ⟨Ao24, co24, eo24⟩ := Kd.R_slice HO1165.out
                (first | subst eo24 | (injection eo24 with f1_ f2_ f3_; have f4_ := f1_.symm; have f5_ := f3_.symm; clear f1_ f2_ f3_; subst f4_; subst f5_))
                obtain ⟨Ao26, co26, eo26⟩ := Kd.R_slice HO1168.out
                (first | subst eo26 | (injection eo26 with f1_ f2_ f3_; have f4_ := f1_.symm; have f5_ := f3_.symm; clear f1_ f2_ f3_; subst f4_; subst f5_))
                refine hK.out _ _ ⟨(blk_cell BK1161.out 0).trans rfl, (blk_cell BK1161.out 1).trans rfl, HS2_⟩ (fun hHeld => ?_)
                clear hK K
                refine norm_ (a' := ?_) ?_ ?_
                rotate_left
                · show Act.put _ (some 51) _ = _
                  simp only [Act.put, List.setIfInBounds_toArray, List.set_cons_zero, List.set_cons_succ, i64_w, i32_w]
                  rfl
                refine pure_ (i := 6) (N := some 45) (v := ?_) (a' := ?_) #[true, true, true, true, true, true, true, false, false, false] rfl rfl (any_of HT_.out (by kernel_rfl)) (fun _ _ _ h => h) (Or.inl ⟨by rfl, ?_⟩) ?_ ?_
                rotate_left
                · intro w'
                  go_simp
                  with_reducible rfl
                rotate_left
                · simp only [Act.put, List.setIfInBounds_toArray, List.set_cons_zero, List.set_cons_succ, i64_w, i32_w]
                  rfl
                refine pure_ (i := 7) (N := some 52) (v := ?_) (a' := ?_) #[true, true, true, true, true, true, true, true, false, false] rfl rfl (any_of HT_.out (by kernel_rfl)) (fun _ _ _ h => h) (Or.inl ⟨by rfl, ?_⟩) ?_ ?_
                rotate_left
                · intro w'
                  go_simp
                  with_reducible rfl
                rotate_left
                · simp only [Act.put, List.setIfInBounds_toArray, List.set_cons_zero, List.set_cons_succ, i64_w, i32_w]
                  rfl
                refine pure_ (i := 8) (N := some 53) (v := ?_) (a' := ?_) #[true, true, true, true, true, true, true, true, true, false] rfl rfl (any_of HT_.out (by kernel_rfl)) (fun _ _ _ h => h) (Or.inl ⟨by rfl, ?_⟩) ?_ ?_
                rotate_left
                · intro w'
                  go_simp
                  with_reducible rfl
                rotate_left
                · simp only [Act.put, List.setIfInBounds_toArray, List.set_cons_zero, List.set_cons_succ, i64_w, i32_w]
                  rfl
                refine last_ (i := 9) (N := none) #[true, true, true, true, true, true, true, true, true, true] rfl rfl (one_of HT_.out (by kernel_rfl)) (by decide) (fun K hK => ?_)
                have hs25 : w23.cell? ⟨gb1161, 0, none⟩ = some (.slice Ao21 x1162000_2.length co21) := (blk_cell BK1161.out 0).trans rfl
                have hfs25 := blk_frozen BK1161.out 0
                have hs27 : w23.cell? ⟨gb1161, 1, none⟩ = some (.slice Ao22 x1162001_2.length co22) := (blk_cell BK1161.out 1).trans rfl
                have hfs27 := blk_frozen BK1161.out 1
                refine skip_ (w1 := ?_) (by rfl) rfl ?_ ?_
                rotate_left
                · go_simp
                  rfl
                refine hK.out _ _ ?_
                clear hK K
                refine done_ (done_of HT_.out (by kernel_rfl)) ?_
                try go_wp2
                go_roundg k2
                case measure => have := HJ7.out; have := HK2.out; omega
                case rel => exact ⟨(wrap64 (x12_2 + 1)), (t1163), (t1166), (.slice Ao24 t1163.length co24), (.slice Ao26 t1166.length co26), (by first | rfl | (simp; done) | (simp [*]; done)), H', ⟨by have := HJ7.out; have := HK2.out; omega⟩, ⟨by (with_reducible repeat (first | apply Kd.N_alloc | apply Kd.N_drewN | apply Kd.N_drew)); exact Kd.N_mono (Kd.N_far (p := ⟨gb1161, 1, none⟩) (Kd.N_far (p := ⟨gb1161, 0, none⟩) (Kd.N_mono HO_0.out (fun k_ hk => (⟨hk, hk.1.1.2.2.2⟩ : _ ∧ k_ ≠ gb1161))) (fun _ hk => hk.2) (.slice Ao24 t1163.length co24)) (fun _ hk => hk.2) (.slice Ao26 t1166.length co26)) (fun _ hk => ⟨hk.1.1.1.1, ⟨hk.1.1.2, ⟨hk.1.2, hk.1.1.1.2.2.2⟩⟩⟩)⟩, ⟨by (with_reducible repeat (first | apply Kd.N_alloc | apply Kd.N_drewN | apply Kd.N_drew)); exact Kd.N_mono (Kd.N_far (p := ⟨gb1161, 1, none⟩) (Kd.N_far (p := ⟨gb1161, 0, none⟩) (Kd.N_mono HO_1.out (fun k_ hk => (⟨hk, hk.1.1.2.2.2⟩ : _ ∧ k_ ≠ gb1161))) (fun _ hk => hk.2) (.slice Ao24 t1163.length co24)) (fun _ hk => hk.2) (.slice Ao26 t1166.length co26)) (fun _ hk => ⟨hk.1.1.1.1, ⟨hk.1.1.2, ⟨hk.1.2, hk.1.1.1.2.2.2⟩⟩⟩)⟩, ⟨by (with_reducible repeat (first | apply Kd.R_alloc | apply Kd.R_drewN | apply Kd.R_drew)); exact Kd.R_mono (Kd.R_far (p := ⟨gb1161, 1, none⟩) (Kd.R_far (p := ⟨gb1161, 0, none⟩) (Kd.R_types HO1165.out BK1161.out (by decide)) (fun _ hk => hk.2) (.slice Ao24 t1163.length co24)) (fun _ hk => hk.2) (.slice Ao26 t1166.length co26)) (fun _ hk => hk.1.1.1)⟩, ⟨by (with_reducible repeat (first | apply Kd.R_alloc | apply Kd.R_drewN | apply Kd.R_drew)); exact Kd.R_mono (Kd.R_far (p := ⟨gb1161, 1, none⟩) (Kd.R_far (p := ⟨gb1161, 0, none⟩) (Kd.R_types HO1168.out BK1161.out (by decide)) (fun _ hk => hk.2) (.slice Ao24 t1163.length co24)) (fun _ hk => hk.2) (.slice Ao26 t1166.length co26)) (fun _ hk => hk.1.1.1)⟩, ⟨by (with_reducible repeat (first | refine blk_drewN ?_ _ | refine blk_drew ?_ | refine blk_alloc ?_ _)); refine blk_put (cs := #[.slice Ao24 t1163.length co24, .slice Ao22 x1162001_2.length co22]) ?_ 1 _ rfl; (with_reducible repeat (first | refine blk_drewN ?_ _ | refine blk_drew ?_ | refine blk_alloc ?_ _)); refine blk_put (cs := #[.slice Ao21 x1162000_2.length co21, .slice Ao22 x1162001_2.length co22]) ?_ 0 _ rfl; (with_reducible repeat (first | refine blk_drewN ?_ _ | refine blk_drew ?_ | refine blk_alloc ?_ _)); exact BK1161.out⟩, ⟨by repeat (first | (with_reducible first | exact HB.out | apply below_alloc | apply pw_below_drewN | apply below_drew1 | refine below_set ?_ GE1161.out) | exact HB.out)⟩⟩
              · rw [if_neg c17] at H
                exact absurd H (by simp)
            · rw [if_neg c16] at H
              have c16b0 : decide (x12_2 < (t1154.length : Int)) = false := decide_eq_false c16
              clear c16
              replace H := Option.bind_eq_some_iff.mp H
              obtain ⟨⟨t1170, t1173, t1176⟩, A280, H⟩ := H
              replace H : ((disk_Sync.f t1170 t1173).bind fun bt1177 => (customslaw34_JournalSnapshot.l1 k2 t1157 l2 l3 a4 t1176 0 bt1177.1 bt1177.2)) = some r := H
              have A28 := Aside0.mk A280
              clear A280
              replace H := Option.bind_eq_some_iff.mp H
              obtain ⟨⟨t1177, t1180⟩, A290, H⟩ := H
              replace H : (customslaw34_JournalSnapshot.l1 k2 t1157 l2 l3 a4 t1176 0 t1177 t1180) = some r := H
              have A29 := Aside0.mk A290
              clear A290
              have H' := Aside0.mk H
              clear H
              obtain ⟨Ao30, co30, eo30⟩ := Kd.N_slice HO_0.out
              subst eo30
              have hcz31_0 : wr.cell? ⟨gb1161, 0, none⟩ = some (u1162000) := (blk_cell BK1161.out 0).trans rfl
              have hcz31_1 : wr.cell? ⟨gb1161, 1, none⟩ = some (u1162001) := (blk_cell BK1161.out 1).trans rfl
              have hfz31_0 := blk_frozen BK1161.out 0
              have hfz31_1 := blk_frozen BK1161.out 1
              obtain ⟨Ao32, co32, eo32⟩ := Kd.R_slice HO_1162000.out
              subst eo32
              obtain ⟨Ao33, co33, eo33⟩ := Kd.R_slice HO_1162001.out
              subst eo33
              go_wp2_with (first | ((with_reducible refine gate_callee (f := 58) rfl ?_); refine goesL_ (some 58) rfl rfl Try.func58 (by kernel_rfl) rfl #[.agg #[.slice Ao32 x1162000_2.length co32, .slice Ao33 x1162001_2.length co33], .agg #[.int .i64 2, .slice A2 l2.length c2]] rfl (by (try simp only [List.map_toArray, List.map_cons, List.map_nil]); first | done | rfl | (simp only [List.length_drop, List.length_take]; rfl)) ?_; (with_reducible refine (journal_Put.calls k2 _ _ x1162000_2 _ _ x1162001_2 2 _ _ l2 t1170 t1173 t1176 _ ?side1 ?side2 ?side3 ?side4 ?side5 ?side6 A28.out).mono ?_); (case side1 => repeat (first | exact (Kd.R_reads' HO_1162000.out).2.2 | (with_reducible refine Kd.C_alloc ?_ _) | (with_reducible refine Kd.C_drewN ?_ _) | (with_reducible refine Kd.C_drew ?_))); (case side2 => exact (Kd.R_reads' HO_1162000.out).2.1); (case side3 => repeat (first | exact (Kd.R_reads' HO_1162001.out).2.2 | (with_reducible refine Kd.C_alloc ?_ _) | (with_reducible refine Kd.C_drewN ?_ _) | (with_reducible refine Kd.C_drew ?_))); (case side4 => exact (Kd.R_reads' HO_1162001.out).2.1); (case side5 => repeat (first | exact (Kd.C_below HR2.out HB.out) | (with_reducible refine Kd.C_alloc ?_ _) | (with_reducible refine Kd.C_drewN ?_ _) | (with_reducible refine Kd.C_drew ?_))); (case side6 => exact HC2.out); rintro e w34 ⟨v1171, v1174, rfl, ho0, ho1, hb⟩; refine ⟨_, rfl, ?_⟩; have n0_ := Aside0.mk (Kd.N_mono (Kd.N_told (Kd.N_told (Kd.N_old (by (with_reducible repeat (first | apply Kd.N_alloc | apply Kd.N_drewN | apply Kd.N_drew)); exact HO_0.out) hb) (Kd.R_base ho0)) (Kd.R_base ho1)) (fun _ h_ => h_.1)); have n1_ := Aside0.mk (Kd.N_mono (Kd.N_told (Kd.N_told (Kd.N_old (by (with_reducible repeat (first | apply Kd.N_alloc | apply Kd.N_drewN | apply Kd.N_drew)); exact HO_1.out) hb) (Kd.R_base ho0)) (Kd.R_base ho1)) (fun _ h_ => h_.1)); have n2_ := Aside0.mk (Kd.R_mono (Kd.R_told (Kd.R_told (Kd.R_old (by (with_reducible repeat (first | apply Kd.R_alloc | apply Kd.R_drewN | apply Kd.R_drew)); exact HO_1162000.out) hb) (Kd.R_base ho0)) (Kd.R_base ho1)) (fun _ h_ => h_.1)); have n3_ := Aside0.mk (Kd.R_mono (Kd.R_told (Kd.R_told (Kd.R_old (by (with_reducible repeat (first | apply Kd.R_alloc | apply Kd.R_drewN | apply Kd.R_drew)); exact HO_1162001.out) hb) (Kd.R_base ho0)) (Kd.R_base ho1)) (fun _ h_ => h_.1)); have n4_ := Aside0.mk (Kd.R_lower (Kd.R_new' (Kd.R_new' ho0 (Kd.R_lt (by (with_reducible repeat (first | apply Kd.R_alloc | apply Kd.R_drewN | apply Kd.R_drew)); exact HO_1162000.out))) (Kd.R_lt (by (with_reducible repeat (first | apply Kd.R_alloc | apply Kd.R_drewN | apply Kd.R_drew)); exact HO_1162001.out))) (below_size (by repeat (first | (with_reducible first | exact HB.out | apply below_alloc | apply pw_below_drewN | apply below_drew1 | refine below_set ?_ GE1161.out) | exact HB.out)))); have n5_ := Aside0.mk (Kd.R_lower (Kd.R_new' (Kd.R_new' ho1 (Kd.R_lt (by (with_reducible repeat (first | apply Kd.R_alloc | apply Kd.R_drewN | apply Kd.R_drew)); exact HO_1162000.out))) (Kd.R_lt (by (with_reducible repeat (first | apply Kd.R_alloc | apply Kd.R_drewN | apply Kd.R_drew)); exact HO_1162001.out))) (below_size (by repeat (first | (with_reducible first | exact HB.out | apply below_alloc | apply pw_below_drewN | apply below_drew1 | refine below_set ?_ GE1161.out) | exact HB.out)))); have n6_ := Aside0.mk (blk_below (g := gb1161) (o := .cells #[.slice Ao32 x1162000_2.length co32, .slice Ao33 x1162001_2.length co33] 24 (0, 0)) (by (with_reducible repeat (first | refine blk_drewN ?_ _ | refine blk_drew ?_ | refine blk_alloc ?_ _)); exact BK1161.out) hb); have n7_ := Aside0.mk (below_step (by repeat (first | (with_reducible first | exact HB.out | apply below_alloc | apply pw_below_drewN | apply below_drew1 | refine below_set ?_ GE1161.out) | exact HB.out)) hb); clear HO_0; clear HO_1; clear HO_1162000; clear HO_1162001; clear BK1161; clear HB; have HO_0 := n0_; have HO_1 := n1_; have HO_1162000 := n2_; have HO_1162001 := n3_; have HO1172 := n4_; have HO1175 := n5_; have BK1161 := n6_; have HB := n7_; clear n0_ n1_ n2_ n3_ n4_ n5_ n6_ n7_; (try clear hb); (try clear hb2); (try clear hk); (try clear hi); (try clear ho0); (try clear ho1); obtain ⟨Ao35, co35, eo35⟩ := Kd.R_slice HO1172.out; subst eo35; have hcz36_0 : w34.cell? ⟨gb1161, 0, none⟩ = some (.slice Ao32 x1162000_2.length co32) := (blk_cell BK1161.out 0).trans rfl; have hcz36_1 : w34.cell? ⟨gb1161, 1, none⟩ = some (.slice Ao33 x1162001_2.length co33) := (blk_cell BK1161.out 1).trans rfl; have hfz36_0 := blk_frozen BK1161.out 0; have hfz36_1 := blk_frozen BK1161.out 1; obtain ⟨Ao37, co37, eo37⟩ := Kd.R_slice HO1175.out; subst eo37) | ((with_reducible refine gate_callee (f := 19) rfl ?_); refine goesL_ (some 62) rfl rfl Try.func19 (by kernel_rfl) rfl #[.agg #[.slice Ao35 t1170.length co35, .slice Ao37 t1173.length co37]] rfl (by (try simp only [List.map_toArray, List.map_cons, List.map_nil]); first | done | rfl | (simp only [List.length_drop, List.length_take]; rfl)) ?_; (with_reducible refine (disk_Sync.calls _ _ t1170 _ _ t1173 t1177 t1180 _ ?side1 ?side2 ?side3 ?side4 A29.out).mono ?_); (case side1 => refine (Kd.R_reads' (e := 5) (base := w.heap.size) (ok := fun k_ => ((some k_ ≠ (.slice Ao37 t1173.length co37 : Value).ownBlock ∧ some k_ ≠ (.slice Ao32 x1162000_2.length co32 : Value).ownBlock) ∧ some k_ ≠ (.slice Ao33 x1162001_2.length co33 : Value).ownBlock)) (n := t1170.length) (c := co35) ?_).2.2; exact (by (with_reducible repeat (first | apply Kd.R_alloc | apply Kd.R_drewN | apply Kd.R_drew)); exact (Kd.R_mono (Kd.R_far (p := ⟨gb1161, 1, none⟩) (Kd.R_far (p := ⟨gb1161, 0, none⟩) (Kd.R_types HO1172.out BK1161.out (by decide)) (fun _ hk => hk.2) (.slice Ao35 t1170.length co35)) (fun _ hk => hk.2) (.slice Ao37 t1173.length co37)) (fun _ h_ => h_.1)))); (case side2 => exact (Kd.R_reads' HO1172.out).2.1); (case side3 => refine (Kd.R_reads' (e := 5) (base := w.heap.size) (ok := fun k_ => ((some k_ ≠ (.slice Ao35 t1170.length co35 : Value).ownBlock ∧ some k_ ≠ (.slice Ao32 x1162000_2.length co32 : Value).ownBlock) ∧ some k_ ≠ (.slice Ao33 x1162001_2.length co33 : Value).ownBlock)) (n := t1173.length) (c := co37) ?_).2.2; exact (by (with_reducible repeat (first | apply Kd.R_alloc | apply Kd.R_drewN | apply Kd.R_drew)); exact (Kd.R_mono (Kd.R_far (p := ⟨gb1161, 1, none⟩) (Kd.R_far (p := ⟨gb1161, 0, none⟩) (Kd.R_types HO1175.out BK1161.out (by decide)) (fun _ hk => hk.2) (.slice Ao35 t1170.length co35)) (fun _ hk => hk.2) (.slice Ao37 t1173.length co37)) (fun _ h_ => h_.1)))); (case side4 => exact (Kd.R_reads' HO1175.out).2.1); rintro e w38 ⟨v1178, v1181, rfl, ho0, ho1, hb⟩; refine ⟨_, rfl, ?_⟩; have n0_ := Aside0.mk (Kd.N_mono (Kd.N_told (Kd.N_told (Kd.N_old (by (with_reducible repeat (first | apply Kd.N_alloc | apply Kd.N_drewN | apply Kd.N_drew)); exact (Kd.N_mono (Kd.N_far (p := ⟨gb1161, 1, none⟩) (Kd.N_far (p := ⟨gb1161, 0, none⟩) (Kd.N_mono HO_0.out (fun k_ hk => (⟨hk, hk.1.1.2.2.2⟩ : _ ∧ k_ ≠ gb1161))) (fun _ hk => hk.2) (.slice Ao35 t1170.length co35)) (fun _ hk => hk.2) (.slice Ao37 t1173.length co37)) (fun _ h_ => h_.1))) hb) (Kd.R_base ho0)) (Kd.R_base ho1)) (fun _ h_ => h_.1)); have n1_ := Aside0.mk (Kd.N_mono (Kd.N_told (Kd.N_told (Kd.N_old (by (with_reducible repeat (first | apply Kd.N_alloc | apply Kd.N_drewN | apply Kd.N_drew)); exact (Kd.N_mono (Kd.N_far (p := ⟨gb1161, 1, none⟩) (Kd.N_far (p := ⟨gb1161, 0, none⟩) (Kd.N_mono HO_1.out (fun k_ hk => (⟨hk, hk.1.1.2.2.2⟩ : _ ∧ k_ ≠ gb1161))) (fun _ hk => hk.2) (.slice Ao35 t1170.length co35)) (fun _ hk => hk.2) (.slice Ao37 t1173.length co37)) (fun _ h_ => h_.1))) hb) (Kd.R_base ho0)) (Kd.R_base ho1)) (fun _ h_ => h_.1)); have n2_ := Aside0.mk (Kd.R_mono (Kd.R_told (Kd.R_told (Kd.R_old (by (with_reducible repeat (first | apply Kd.R_alloc | apply Kd.R_drewN | apply Kd.R_drew)); exact (Kd.R_mono (Kd.R_far (p := ⟨gb1161, 1, none⟩) (Kd.R_far (p := ⟨gb1161, 0, none⟩) (Kd.R_types HO_1162000.out BK1161.out (by decide)) (fun _ hk => hk.2) (.slice Ao35 t1170.length co35)) (fun _ hk => hk.2) (.slice Ao37 t1173.length co37)) (fun _ h_ => h_.1))) hb) (Kd.R_base ho0)) (Kd.R_base ho1)) (fun _ h_ => h_.1)); have n3_ := Aside0.mk (Kd.R_mono (Kd.R_told (Kd.R_told (Kd.R_old (by (with_reducible repeat (first | apply Kd.R_alloc | apply Kd.R_drewN | apply Kd.R_drew)); exact (Kd.R_mono (Kd.R_far (p := ⟨gb1161, 1, none⟩) (Kd.R_far (p := ⟨gb1161, 0, none⟩) (Kd.R_types HO_1162001.out BK1161.out (by decide)) (fun _ hk => hk.2) (.slice Ao35 t1170.length co35)) (fun _ hk => hk.2) (.slice Ao37 t1173.length co37)) (fun _ h_ => h_.1))) hb) (Kd.R_base ho0)) (Kd.R_base ho1)) (fun _ h_ => h_.1)); have n4_ := Aside0.mk (Kd.R_mono (Kd.R_told (Kd.R_told (Kd.R_old (by (with_reducible repeat (first | apply Kd.R_alloc | apply Kd.R_drewN | apply Kd.R_drew)); exact (Kd.R_mono (Kd.R_far (p := ⟨gb1161, 1, none⟩) (Kd.R_far (p := ⟨gb1161, 0, none⟩) (Kd.R_types HO1172.out BK1161.out (by decide)) (fun _ hk => hk.2) (.slice Ao35 t1170.length co35)) (fun _ hk => hk.2) (.slice Ao37 t1173.length co37)) (fun _ h_ => h_.1))) hb) (Kd.R_base ho0)) (Kd.R_base ho1)) (fun _ h_ => h_.1)); have n5_ := Aside0.mk (Kd.R_mono (Kd.R_told (Kd.R_told (Kd.R_old (by (with_reducible repeat (first | apply Kd.R_alloc | apply Kd.R_drewN | apply Kd.R_drew)); exact (Kd.R_mono (Kd.R_far (p := ⟨gb1161, 1, none⟩) (Kd.R_far (p := ⟨gb1161, 0, none⟩) (Kd.R_types HO1175.out BK1161.out (by decide)) (fun _ hk => hk.2) (.slice Ao35 t1170.length co35)) (fun _ hk => hk.2) (.slice Ao37 t1173.length co37)) (fun _ h_ => h_.1))) hb) (Kd.R_base ho0)) (Kd.R_base ho1)) (fun _ h_ => h_.1)); have n6_ := Aside0.mk (Kd.R_lower (Kd.R_new' (Kd.R_new' (Kd.R_new' (Kd.R_new' ho0 (Kd.R_lt (by (with_reducible repeat (first | apply Kd.R_alloc | apply Kd.R_drewN | apply Kd.R_drew)); exact (Kd.R_mono (Kd.R_far (p := ⟨gb1161, 1, none⟩) (Kd.R_far (p := ⟨gb1161, 0, none⟩) (Kd.R_types HO_1162000.out BK1161.out (by decide)) (fun _ hk => hk.2) (.slice Ao35 t1170.length co35)) (fun _ hk => hk.2) (.slice Ao37 t1173.length co37)) (fun _ h_ => h_.1))))) (Kd.R_lt (by (with_reducible repeat (first | apply Kd.R_alloc | apply Kd.R_drewN | apply Kd.R_drew)); exact (Kd.R_mono (Kd.R_far (p := ⟨gb1161, 1, none⟩) (Kd.R_far (p := ⟨gb1161, 0, none⟩) (Kd.R_types HO_1162001.out BK1161.out (by decide)) (fun _ hk => hk.2) (.slice Ao35 t1170.length co35)) (fun _ hk => hk.2) (.slice Ao37 t1173.length co37)) (fun _ h_ => h_.1))))) (Kd.R_lt (by (with_reducible repeat (first | apply Kd.R_alloc | apply Kd.R_drewN | apply Kd.R_drew)); exact (Kd.R_mono (Kd.R_far (p := ⟨gb1161, 1, none⟩) (Kd.R_far (p := ⟨gb1161, 0, none⟩) (Kd.R_types HO1172.out BK1161.out (by decide)) (fun _ hk => hk.2) (.slice Ao35 t1170.length co35)) (fun _ hk => hk.2) (.slice Ao37 t1173.length co37)) (fun _ h_ => h_.1))))) (Kd.R_lt (by (with_reducible repeat (first | apply Kd.R_alloc | apply Kd.R_drewN | apply Kd.R_drew)); exact (Kd.R_mono (Kd.R_far (p := ⟨gb1161, 1, none⟩) (Kd.R_far (p := ⟨gb1161, 0, none⟩) (Kd.R_types HO1175.out BK1161.out (by decide)) (fun _ hk => hk.2) (.slice Ao35 t1170.length co35)) (fun _ hk => hk.2) (.slice Ao37 t1173.length co37)) (fun _ h_ => h_.1))))) (below_size (by repeat (first | (with_reducible first | exact HB.out | apply below_alloc | apply pw_below_drewN | apply below_drew1 | refine below_set ?_ GE1161.out) | exact HB.out)))); have n7_ := Aside0.mk (Kd.R_lower (Kd.R_new' (Kd.R_new' (Kd.R_new' (Kd.R_new' ho1 (Kd.R_lt (by (with_reducible repeat (first | apply Kd.R_alloc | apply Kd.R_drewN | apply Kd.R_drew)); exact (Kd.R_mono (Kd.R_far (p := ⟨gb1161, 1, none⟩) (Kd.R_far (p := ⟨gb1161, 0, none⟩) (Kd.R_types HO_1162000.out BK1161.out (by decide)) (fun _ hk => hk.2) (.slice Ao35 t1170.length co35)) (fun _ hk => hk.2) (.slice Ao37 t1173.length co37)) (fun _ h_ => h_.1))))) (Kd.R_lt (by (with_reducible repeat (first | apply Kd.R_alloc | apply Kd.R_drewN | apply Kd.R_drew)); exact (Kd.R_mono (Kd.R_far (p := ⟨gb1161, 1, none⟩) (Kd.R_far (p := ⟨gb1161, 0, none⟩) (Kd.R_types HO_1162001.out BK1161.out (by decide)) (fun _ hk => hk.2) (.slice Ao35 t1170.length co35)) (fun _ hk => hk.2) (.slice Ao37 t1173.length co37)) (fun _ h_ => h_.1))))) (Kd.R_lt (by (with_reducible repeat (first | apply Kd.R_alloc | apply Kd.R_drewN | apply Kd.R_drew)); exact (Kd.R_mono (Kd.R_far (p := ⟨gb1161, 1, none⟩) (Kd.R_far (p := ⟨gb1161, 0, none⟩) (Kd.R_types HO1172.out BK1161.out (by decide)) (fun _ hk => hk.2) (.slice Ao35 t1170.length co35)) (fun _ hk => hk.2) (.slice Ao37 t1173.length co37)) (fun _ h_ => h_.1))))) (Kd.R_lt (by (with_reducible repeat (first | apply Kd.R_alloc | apply Kd.R_drewN | apply Kd.R_drew)); exact (Kd.R_mono (Kd.R_far (p := ⟨gb1161, 1, none⟩) (Kd.R_far (p := ⟨gb1161, 0, none⟩) (Kd.R_types HO1175.out BK1161.out (by decide)) (fun _ hk => hk.2) (.slice Ao35 t1170.length co35)) (fun _ hk => hk.2) (.slice Ao37 t1173.length co37)) (fun _ h_ => h_.1))))) (below_size (by repeat (first | (with_reducible first | exact HB.out | apply below_alloc | apply pw_below_drewN | apply below_drew1 | refine below_set ?_ GE1161.out) | exact HB.out)))); have n8_ := Aside0.mk (blk_below (g := gb1161) (o := .cells #[.slice Ao35 t1170.length co35, .slice Ao37 t1173.length co37] 24 (0, 0)) (by (with_reducible repeat (first | refine blk_drewN ?_ _ | refine blk_drew ?_ | refine blk_alloc ?_ _)); refine blk_put (cs := #[.slice Ao35 t1170.length co35, .slice Ao33 x1162001_2.length co33]) ?_ 1 _ rfl; (with_reducible repeat (first | refine blk_drewN ?_ _ | refine blk_drew ?_ | refine blk_alloc ?_ _)); refine blk_put (cs := #[.slice Ao32 x1162000_2.length co32, .slice Ao33 x1162001_2.length co33]) ?_ 0 _ rfl; (with_reducible repeat (first | refine blk_drewN ?_ _ | refine blk_drew ?_ | refine blk_alloc ?_ _)); exact BK1161.out) hb); have n9_ := Aside0.mk (below_step (by repeat (first | (with_reducible first | exact HB.out | apply below_alloc | apply pw_below_drewN | apply below_drew1 | refine below_set ?_ GE1161.out) | exact HB.out)) hb); clear HO_0; clear HO_1; clear HO_1162000; clear HO_1162001; clear HO1172; clear HO1175; clear BK1161; clear HB; have HO_0 := n0_; have HO_1 := n1_; have HO_1162000 := n2_; have HO_1162001 := n3_; have HO1172 := n4_; have HO1175 := n5_; have HO1179 := n6_; have HO1182 := n7_; have BK1161 := n8_; have HB := n9_; clear n0_ n1_ n2_ n3_ n4_ n5_ n6_ n7_ n8_ n9_; (try clear hb); (try clear hb2); (try clear hk); (try clear hi); (try clear ho0); (try clear ho1); obtain ⟨Ao39, co39, eo39⟩ := Kd.R_slice HO1179.out; subst eo39; have hcz40_0 : w38.cell? ⟨gb1161, 0, none⟩ = some (.slice Ao35 t1170.length co35) := (blk_cell BK1161.out 0).trans rfl; have hcz40_1 : w38.cell? ⟨gb1161, 1, none⟩ = some (.slice Ao37 t1173.length co37) := (blk_cell BK1161.out 1).trans rfl; have hfz40_0 := blk_frozen BK1161.out 0; have hfz40_1 := blk_frozen BK1161.out 1; obtain ⟨Ao41, co41, eo41⟩ := Kd.R_slice HO1182.out; subst eo41))
              go_loopg [14] k2 (fun kq v14 w' => ∃ (x14_3 : Int) (x1162000_3 : List Int) (x1162001_3 : List Int) (u1162000 : Value) (u1162001 : Value), v14 = .int .i64 x14_3 ∧ Aside0 (customslaw34_JournalSnapshot.l1 kq t1157 l2 l3 a4 t1176 x14_3 x1162000_3 x1162001_3 = some r) ∧ Aside0 (kq ≤ k2) ∧ Aside0 (Kd.N (Kd.slice 5 (Kd.int .u8)) 22 w' w.heap.size (fun k_ => some k_ ≠ (u1162000 : Value).ownBlock ∧ some k_ ≠ (u1162001 : Value).ownBlock ∧ k_ ≠ gb1161) v1158 t1157) ∧ Aside0 (Kd.R (Kd.int .u8) 5 w' w.heap.size (fun k_ => some k_ ≠ (u1162001 : Value).ownBlock) u1162000 x1162000_3) ∧ Aside0 (Kd.R (Kd.int .u8) 5 w' w.heap.size (fun k_ => some k_ ≠ (u1162000 : Value).ownBlock) u1162001 x1162001_3) ∧ Aside0 (w'.heap[gb1161]? = some (.cells #[u1162000, u1162001] 24 (0, 0))) ∧ Aside0 (Below w.heap.size w w'))
              case atStart => exact ⟨(0), (t1177), (t1180), (.slice Ao39 t1177.length co39), (.slice Ao41 t1180.length co41), (by first | rfl | (simp; done) | (simp [*]; done)), H', ⟨Nat.le_refl _⟩, ⟨by (with_reducible repeat (first | apply Kd.N_alloc | apply Kd.N_drewN | apply Kd.N_drew)); exact Kd.N_mono (Kd.N_far (p := ⟨gb1161, 1, none⟩) (Kd.N_far (p := ⟨gb1161, 0, none⟩) (Kd.N_mono HO_1.out (fun k_ hk => (⟨hk, hk.1.1.1.1.2.2.2⟩ : _ ∧ k_ ≠ gb1161))) (fun _ hk => hk.2) (.slice Ao39 t1177.length co39)) (fun _ hk => hk.2) (.slice Ao41 t1180.length co41)) (fun _ hk => ⟨hk.1.1.2, ⟨hk.1.2, hk.1.1.1.1.1.2.2.2⟩⟩)⟩, ⟨by (with_reducible repeat (first | apply Kd.R_alloc | apply Kd.R_drewN | apply Kd.R_drew)); exact Kd.R_mono (Kd.R_far (p := ⟨gb1161, 1, none⟩) (Kd.R_far (p := ⟨gb1161, 0, none⟩) (Kd.R_types HO1179.out BK1161.out (by decide)) (fun _ hk => hk.2) (.slice Ao39 t1177.length co39)) (fun _ hk => hk.2) (.slice Ao41 t1180.length co41)) (fun _ hk => hk.1.1.1.1.1)⟩, ⟨by (with_reducible repeat (first | apply Kd.R_alloc | apply Kd.R_drewN | apply Kd.R_drew)); exact Kd.R_mono (Kd.R_far (p := ⟨gb1161, 1, none⟩) (Kd.R_far (p := ⟨gb1161, 0, none⟩) (Kd.R_types HO1182.out BK1161.out (by decide)) (fun _ hk => hk.2) (.slice Ao39 t1177.length co39)) (fun _ hk => hk.2) (.slice Ao41 t1180.length co41)) (fun _ hk => hk.1.1.1.1.1)⟩, ⟨by (with_reducible repeat (first | refine blk_drewN ?_ _ | refine blk_drew ?_ | refine blk_alloc ?_ _)); refine blk_put (cs := #[.slice Ao39 t1177.length co39, .slice Ao37 t1173.length co37]) ?_ 1 _ rfl; (with_reducible repeat (first | refine blk_drewN ?_ _ | refine blk_drew ?_ | refine blk_alloc ?_ _)); refine blk_put (cs := #[.slice Ao35 t1170.length co35, .slice Ao37 t1173.length co37]) ?_ 0 _ rfl; (with_reducible repeat (first | refine blk_drewN ?_ _ | refine blk_drew ?_ | refine blk_alloc ?_ _)); exact BK1161.out⟩, ⟨by repeat (first | (with_reducible first | exact HB.out | apply below_alloc | apply pw_below_drewN | apply below_drew1 | refine below_set ?_ GE1161.out) | exact HB.out)⟩⟩
              case round =>
                clear H'
                try clear c1
                try clear p1
                try clear q1
                try clear hx1
                try clear c2
                try clear p2
                try clear c3
                try clear c5
                try clear p6
                try clear c11
                try clear c11b0
                try clear c11b1
                try clear p11
                try clear q11
                try clear hx11
                try clear c12
                try clear c15
                try clear c16
                try clear c16b0
                try clear c17
                try clear c17b0
                try clear c19
                try clear hcz31_0
                try clear hcz31_1
                try clear hcz36_0
                try clear hcz36_1
                try clear hcz40_0
                try clear hcz40_1
                try clear hfz31_0
                try clear hfz31_1
                try clear hfz36_0
                try clear hfz36_1
                try clear hfz40_0
                try clear hfz40_1
                try clear hx1162_0
                try clear p1162
                try clear p2
                try clear q1162
                obtain ⟨x14_3, x1162000_3, x1162001_3, u1162000, u1162001, rfl, HA, HK3, HO_1, HO_1162000, HO_1162001, BK1161, HB⟩ := hrel
                cases gk with
                | zero => exact absurd HA.out (by simp [customslaw34_JournalSnapshot.l1])
                | succ k3 =>
                  have H := HA.out
                  clear HA
                  simp only [customslaw34_JournalSnapshot.l1] at H
                  by_cases c42 : x14_3 < (t1157.length : Int)
                  · rw [if_pos c42] at H
                    have c42b0 : decide (x14_3 < (t1157.length : Int)) = true := decide_eq_true c42
                    clear c42
                    by_cases c43 : 0 ≤ x14_3
                    · rw [if_pos c43] at H
                      have c43b0 : decide (0 ≤ x14_3) = true := decide_eq_true c43
                      clear c43
                      replace H := Option.bind_eq_some_iff.mp H
                      obtain ⟨⟨t1184, t1187, t1190⟩, A440, H⟩ := H
                      replace H : (customslaw34_JournalSnapshot.l1 k3 t1157 l2 l3 a4 t1176 (wrap64 (x14_3 + 1)) t1184 t1187) = some r := H
                      have A44 := Aside0.mk A440
                      clear A440
                      have H' := Aside0.mk H
                      clear H
                      obtain ⟨Ao45, co45, eo45⟩ := Kd.N_slice HO_1.out
                      subst eo45
                      try go_wp2
                      have n0_ := Aside0.mk (Kd.N_drew HO_1.out)
                      have n1_ := Aside0.mk (Kd.R_drew HO_1162000.out)
                      have n2_ := Aside0.mk (Kd.R_drew HO_1162001.out)
                      have n3_ := Aside0.mk (blk_drew BK1161.out)
                      have n4_ := Aside0.mk (below_drew1 HB.out)
                      clear HO_1
                      clear HO_1162000
                      clear HO_1162001
                      clear BK1161
                      clear HB
                      have HO_1 := n0_
                      have HO_1162000 := n1_
                      have HO_1162001 := n2_
                      have BK1161 := n3_
                      have HB := n4_
                      clear n0_ n1_ n2_ n3_ n4_
                      have p1183 : 0 ≤ (x14_3 : Int) := of_decide_eq_true (by first | (with_reducible assumption) | assumption)
                      have q1183 : x14_3 < (t1157.length : Int) := of_decide_eq_true (by first | (with_reducible assumption) | assumption)
                      obtain ⟨ad1183, A1183_0, c1183_0, e1183, hx1183_0, hl1183_0, hi1183_0⟩ := at_L1 (Kd.N_reads' HO_1.out).2.2 x14_3 p1183 q1183
                      cases e1183
                      obtain ⟨ce1183, hce1183, hMe1183, hcc1183⟩ := Kd.N_get HO_1.out [] x14_3 p1183 (by first | exact q1183 | exact of_decide_eq_true (by first | (with_reducible assumption) | assumption) | (have e_ := (Kd.N_reads' HO_1.out).1; omega))
                      obtain ⟨ua1183_0, uc1183_0, rfl, ul1183_0, ge1183_0⟩ := Kd.FK_slice_open hMe1183
                      have hv1183_0 := hcc1183 0 _ rfl
                      rw [Nat.add_zero, show ((Kd.slice 5 (Kd.int .u8))).sz = 1 from rfl, Nat.mul_one] at hv1183_0
                      replace hv1183_0 := Option.some.inj (hv1183_0.symm.trans hx1183_0)
                      injection hv1183_0 with hva_ hvn_ hvc_
                      rw [hva_] at ge1183_0
                      rw [hvc_] at ul1183_0
                      have HL1183_0 := Aside0.mk (show Kd.V (Kd.int .u8) 5 _ w.heap.size _ _ (rd_L1 t1157 x14_3) from Kd.V_mk ul1183_0 ge1183_0)
                      clear hva_ hvn_ hvc_ ge1183_0 ul1183_0
                      clear hcc1183 hce1183
                      have HR1183_0 := Aside0.mk hi1183_0
                      have HC1183_0 := Aside0.mk hl1183_0
                      clear hi1183_0 hl1183_0
                      replace p1183 := eq_true p1183
                      replace q1183 := eq_true q1183
                      obtain ⟨Ao47, co47, eo47⟩ := Kd.R_slice HO_1162000.out
                      (first | subst eo47 | (injection eo47 with f1_ f2_ f3_; have f4_ := f1_.symm; have f5_ := f3_.symm; clear f1_ f2_ f3_; subst f4_; subst f5_))
                      obtain ⟨Ao48, co48, eo48⟩ := Kd.R_slice HO_1162001.out
                      (first | subst eo48 | (injection eo48 with f1_ f2_ f3_; have f4_ := f1_.symm; have f5_ := f3_.symm; clear f1_ f2_ f3_; subst f4_; subst f5_))
                      refine start_ (n := 10) (S := fun w' => w'.cell? ⟨gb1161, 0, none⟩ = some (.slice Ao47 x1162000_3.length co47) ∧ w'.cell? ⟨gb1161, 1, none⟩ = some (.slice Ao48 x1162001_3.length co48) ∧ w'.cell? (ad1183.add (x14_3).toNat) = some (.slice A1183_0 (rd_L1 t1157 x14_3).length c1183_0)) (ds := [9]) #[false, false, false, false, false, false, false, false, false, false] (by kernel_rfl) rfl rfl ⟨(blk_cell BK1161.out 0).trans rfl, (blk_cell BK1161.out 1).trans rfl, hx1183_0⟩ (fun hHeld => ?_); refine with_tabW customslaw34_JournalSnapshot.tab14 customslaw34_JournalSnapshot.bits14 (fun HT_ HW_ => ?_)
                      generalize wr.drew = w46 at HO_1 HO_1162000 HO_1162001 BK1161 HB HL1183_0 HR1183_0 hx1183_0 hHeld ⊢
                      refine pure_ (i := 1) (N := some 71) (v := ?_) (a' := ?_) #[false, true, false, false, false, false, false, false, false, false] rfl rfl (any_of HT_.out (by kernel_rfl)) (fun _ _ _ h => h) (Or.inl ⟨by rfl, ?_⟩) ?_ ?_
                      rotate_left
                      · intro w'
                        go_simp
                        with_reducible rfl
                      rotate_left
                      · simp only [Act.put, List.setIfInBounds_toArray, List.set_cons_zero, List.set_cons_succ, i64_w, i32_w]
                        rfl
                      refine pure_ (i := 2) (N := some 72) (v := ?_) (a' := ?_) #[false, true, true, false, false, false, false, false, false, false] rfl rfl (any_of HT_.out (by kernel_rfl)) (fun _ _ _ h => h) (Or.inl ⟨by rfl, ?_⟩) ?_ ?_
                      rotate_left
                      · intro w'
                        go_simp
                        with_reducible rfl
                      rotate_left
                      · simp only [Act.put, List.setIfInBounds_toArray, List.set_cons_zero, List.set_cons_succ, i64_w, i32_w]
                        rfl
                      refine pure_ (i := 3) (N := some 73) (v := ?_) (a' := ?_) #[false, true, true, true, false, false, false, false, false, false] rfl rfl (any_of HT_.out (by kernel_rfl)) (fun _ _ _ h => h) (Or.inl ⟨by rfl, ?_⟩) ?_ ?_
                      rotate_left
                      · intro w'
                        go_simp
                        with_reducible rfl
                      rotate_left
                      · simp only [Act.put, List.setIfInBounds_toArray, List.set_cons_zero, List.set_cons_succ, i64_w, i32_w]
                        rfl
                      refine take_ (i := 0) (N := some 70) (v := ?_) (a' := ?_) #[true, true, true, true, false, false, false, false, false, false] rfl rfl (take_ofW HT_.out HW_.out (by kernel_rfl)) (fun _ _ _ h => h) (Or.inl ⟨by rfl, ?_⟩) hHeld ?_ ?_
                      rotate_left
                      · rintro w' ⟨s0, s1, s2⟩
                        go_simp
                        with_reducible rfl
                      rotate_left
                      · simp only [Act.put, List.setIfInBounds_toArray, List.set_cons_zero, List.set_cons_succ, i64_w, i32_w]
                        rfl
                      refine take_ (i := 4) (N := some 74) (v := ?_) (a' := ?_) #[true, true, true, true, true, false, false, false, false, false] rfl rfl (take_ofW HT_.out HW_.out (by kernel_rfl)) (fun _ _ _ h => h) (Or.inl ⟨by rfl, ?_⟩) hHeld ?_ ?_
                      rotate_left
                      · rintro w' ⟨s0, s1, s2⟩
                        go_simp
                        with_reducible rfl
                      rotate_left
                      · simp only [Act.put, List.setIfInBounds_toArray, List.set_cons_zero, List.set_cons_succ, i64_w, i32_w]
                        rfl
                      refine one_ (i := 5) (N := some 75) #[true, true, true, true, true, true, false, false, false, false] rfl rfl (one_of HT_.out (by kernel_rfl)) (by decide) (fun K hK => ?_)
                      refine goes_ Try.func59 (by kernel_rfl) rfl #[.agg #[.slice Ao47 x1162000_3.length co47, .slice Ao48 x1162001_3.length co48], .slice A1183_0 (rd_L1 t1157 x14_3).length c1183_0] (by rfl) rfl rfl (by (try simp only [List.map_toArray, List.map_cons, List.map_nil]); first | done | rfl | (simp only [List.length_drop, List.length_take]; rfl)) ?_
                      with_reducible refine (journal_Append.calls k3 _ _ x1162000_3 _ _ x1162001_3 _ _ (rd_L1 t1157 x14_3) t1184 t1187 t1190 _ ?side1 ?side2 ?side3 ?side4 ?side5 ?side6 A44.out).mono ?_
                      (case side1 => repeat (first | exact (Kd.R_reads' HO_1162000.out).2.2 | (with_reducible refine Kd.C_alloc ?_ _) | (with_reducible refine Kd.C_drewN ?_ _) | (with_reducible refine Kd.C_drew ?_)))
                      (case side2 => exact (Kd.R_reads' HO_1162000.out).2.1)
                      (case side3 => repeat (first | exact (Kd.R_reads' HO_1162001.out).2.2 | (with_reducible refine Kd.C_alloc ?_ _) | (with_reducible refine Kd.C_drewN ?_ _) | (with_reducible refine Kd.C_drew ?_)))
                      (case side4 => exact (Kd.R_reads' HO_1162001.out).2.1)
                      (case side5 => repeat (first | exact (by repeat (first | (with_reducible exact HR1183_0.out) | (with_reducible refine Kd.C_alloc ?_ _) | (with_reducible refine Kd.C_drewN ?_ _) | (with_reducible refine Kd.C_drew ?_) | exact HR1183_0.out)) | (with_reducible refine Kd.C_alloc ?_ _) | (with_reducible refine Kd.C_drewN ?_ _) | (with_reducible refine Kd.C_drew ?_)))
                      (case side6 => exact HC1183_0.out)
                      rintro e w49 ⟨v1185, v1188, rfl, ho0, ho1, hb⟩
                      have HS2_ := (hb.cell (World.block_lt_of_cell? _ _ (hHeld.2.2))).trans (hHeld.2.2)
                      refine ⟨_, rfl, ?_⟩
                      have n0_ := Aside0.mk (Kd.N_mono (Kd.N_told (Kd.N_told (Kd.N_old (by (with_reducible repeat (first | apply Kd.N_alloc | apply Kd.N_drewN | apply Kd.N_drew)); exact HO_1.out) hb) (Kd.R_base ho0)) (Kd.R_base ho1)) (fun _ h_ => h_.1))
                      have n1_ := Aside0.mk (Kd.R_mono (Kd.R_told (Kd.R_told (Kd.R_old (by (with_reducible repeat (first | apply Kd.R_alloc | apply Kd.R_drewN | apply Kd.R_drew)); exact HO_1162000.out) hb) (Kd.R_base ho0)) (Kd.R_base ho1)) (fun _ h_ => h_.1))
                      have n2_ := Aside0.mk (Kd.R_mono (Kd.R_told (Kd.R_told (Kd.R_old (by (with_reducible repeat (first | apply Kd.R_alloc | apply Kd.R_drewN | apply Kd.R_drew)); exact HO_1162001.out) hb) (Kd.R_base ho0)) (Kd.R_base ho1)) (fun _ h_ => h_.1))
                      have n3_ := Aside0.mk (Kd.V_mono (Kd.V_told (Kd.V_told (Kd.V_old (by (with_reducible repeat (first | apply Kd.V_alloc | apply Kd.V_drewN | apply Kd.V_drew)); exact HL1183_0.out) hb) (Kd.R_base ho0)) (Kd.R_base ho1)) (fun _ h_ => h_.1))
                      have n4_ := Aside0.mk (Kd.R_lower (Kd.R_new' (Kd.R_new' ho0 (Kd.R_lt (by (with_reducible repeat (first | apply Kd.R_alloc | apply Kd.R_drewN | apply Kd.R_drew)); exact HO_1162000.out))) (Kd.R_lt (by (with_reducible repeat (first | apply Kd.R_alloc | apply Kd.R_drewN | apply Kd.R_drew)); exact HO_1162001.out))) (below_size (by repeat (first | (with_reducible first | exact HB.out | apply below_alloc | apply pw_below_drewN | apply below_drew1 | refine below_set ?_ GE1161.out) | exact HB.out))))
                      have n5_ := Aside0.mk (Kd.R_lower (Kd.R_new' (Kd.R_new' ho1 (Kd.R_lt (by (with_reducible repeat (first | apply Kd.R_alloc | apply Kd.R_drewN | apply Kd.R_drew)); exact HO_1162000.out))) (Kd.R_lt (by (with_reducible repeat (first | apply Kd.R_alloc | apply Kd.R_drewN | apply Kd.R_drew)); exact HO_1162001.out))) (below_size (by repeat (first | (with_reducible first | exact HB.out | apply below_alloc | apply pw_below_drewN | apply below_drew1 | refine below_set ?_ GE1161.out) | exact HB.out))))
                      have n6_ := Aside0.mk (blk_below (g := gb1161) (o := .cells #[.slice Ao47 x1162000_3.length co47, .slice Ao48 x1162001_3.length co48] 24 (0, 0)) (by (with_reducible repeat (first | refine blk_drewN ?_ _ | refine blk_drew ?_ | refine blk_alloc ?_ _)); exact BK1161.out) hb)
                      have n7_ := Aside0.mk (Kd.C_below (by repeat (first | (with_reducible exact HR1183_0.out) | (with_reducible refine Kd.C_alloc ?_ _) | (with_reducible refine Kd.C_drewN ?_ _) | (with_reducible refine Kd.C_drew ?_) | exact HR1183_0.out)) hb)
                      have n8_ := Aside0.mk (below_step (by repeat (first | (with_reducible first | exact HB.out | apply below_alloc | apply pw_below_drewN | apply below_drew1 | refine below_set ?_ GE1161.out) | exact HB.out)) hb)
                      clear HO_1
                      clear HO_1162000
                      clear HO_1162001
                      clear HL1183_0
                      clear BK1161
                      clear HR1183_0
                      clear HB
                      have HO_1 := n0_
                      have HO_1162000 := n1_
                      have HO_1162001 := n2_
                      have HL1183_0 := n3_
                      have HO1186 := n4_
                      have HO1189 := n5_
                      have BK1161 := n6_
                      have HR1183_0 := n7_
                      have HB := n8_
                      clear n0_ n1_ n2_ n3_ n4_ n5_ n6_ n7_ n8_
                      (try clear hb)
                      (try clear hb2)
                      (try clear hk)
                      (try clear hi)
                      (try clear ho0)
                      (try clear ho1)
                      obtain ⟨Ao50, co50, eo50⟩ := Kd.R_slice HO1186.out
                      (first | subst eo50 | (injection eo50 with f1_ f2_ f3_; have f4_ := f1_.symm; have f5_ := f3_.symm; clear f1_ f2_ f3_; subst f4_; subst f5_))
                      obtain ⟨Ao52, co52, eo52⟩ := Kd.R_slice HO1189.out
                      (first | subst eo52 | (injection eo52 with f1_ f2_ f3_; have f4_ := f1_.symm; have f5_ := f3_.symm; clear f1_ f2_ f3_; subst f4_; subst f5_))
                      refine hK.out _ _ ⟨(blk_cell BK1161.out 0).trans rfl, (blk_cell BK1161.out 1).trans rfl, HS2_⟩ (fun hHeld => ?_)
                      clear hK K
                      refine norm_ (a' := ?_) ?_ ?_
                      rotate_left
                      · show Act.put _ (some 75) _ = _
                        simp only [Act.put, List.setIfInBounds_toArray, List.set_cons_zero, List.set_cons_succ, i64_w, i32_w]
                        rfl
                      refine pure_ (i := 6) (N := some 69) (v := ?_) (a' := ?_) #[true, true, true, true, true, true, true, false, false, false] rfl rfl (any_of HT_.out (by kernel_rfl)) (fun _ _ _ h => h) (Or.inl ⟨by rfl, ?_⟩) ?_ ?_
                      rotate_left
                      · intro w'
                        go_simp
                        with_reducible rfl
                      rotate_left
                      · simp only [Act.put, List.setIfInBounds_toArray, List.set_cons_zero, List.set_cons_succ, i64_w, i32_w]
                        rfl
                      refine pure_ (i := 7) (N := some 76) (v := ?_) (a' := ?_) #[true, true, true, true, true, true, true, true, false, false] rfl rfl (any_of HT_.out (by kernel_rfl)) (fun _ _ _ h => h) (Or.inl ⟨by rfl, ?_⟩) ?_ ?_
                      rotate_left
                      · intro w'
                        go_simp
                        with_reducible rfl
                      rotate_left
                      · simp only [Act.put, List.setIfInBounds_toArray, List.set_cons_zero, List.set_cons_succ, i64_w, i32_w]
                        rfl
                      refine pure_ (i := 8) (N := some 77) (v := ?_) (a' := ?_) #[true, true, true, true, true, true, true, true, true, false] rfl rfl (any_of HT_.out (by kernel_rfl)) (fun _ _ _ h => h) (Or.inl ⟨by rfl, ?_⟩) ?_ ?_
                      rotate_left
                      · intro w'
                        go_simp
                        with_reducible rfl
                      rotate_left
                      · simp only [Act.put, List.setIfInBounds_toArray, List.set_cons_zero, List.set_cons_succ, i64_w, i32_w]
                        rfl
                      refine last_ (i := 9) (N := none) #[true, true, true, true, true, true, true, true, true, true] rfl rfl (one_of HT_.out (by kernel_rfl)) (by decide) (fun K hK => ?_)
                      have hs51 : w49.cell? ⟨gb1161, 0, none⟩ = some (.slice Ao47 x1162000_3.length co47) := (blk_cell BK1161.out 0).trans rfl
                      have hfs51 := blk_frozen BK1161.out 0
                      have hs53 : w49.cell? ⟨gb1161, 1, none⟩ = some (.slice Ao48 x1162001_3.length co48) := (blk_cell BK1161.out 1).trans rfl
                      have hfs53 := blk_frozen BK1161.out 1
                      refine skip_ (w1 := ?_) (by rfl) rfl ?_ ?_
                      rotate_left
                      · go_simp
                        rfl
                      refine hK.out _ _ ?_
                      clear hK K
                      refine done_ (done_of HT_.out (by kernel_rfl)) ?_
                      try go_wp2
                      go_roundg k3
                      case measure => have := HJ7.out; have := HK2.out; have := HK3.out; omega
                      case rel => exact ⟨(wrap64 (x14_3 + 1)), (t1184), (t1187), (.slice Ao50 t1184.length co50), (.slice Ao52 t1187.length co52), (by first | rfl | (simp; done) | (simp [*]; done)), H', ⟨by have := HJ7.out; have := HK2.out; have := HK3.out; omega⟩, ⟨by (with_reducible repeat (first | apply Kd.N_alloc | apply Kd.N_drewN | apply Kd.N_drew)); exact Kd.N_mono (Kd.N_far (p := ⟨gb1161, 1, none⟩) (Kd.N_far (p := ⟨gb1161, 0, none⟩) (Kd.N_mono HO_1.out (fun k_ hk => (⟨hk, hk.1.1.2.2⟩ : _ ∧ k_ ≠ gb1161))) (fun _ hk => hk.2) (.slice Ao50 t1184.length co50)) (fun _ hk => hk.2) (.slice Ao52 t1187.length co52)) (fun _ hk => ⟨hk.1.1.2, ⟨hk.1.2, hk.1.1.1.2.2⟩⟩)⟩, ⟨by (with_reducible repeat (first | apply Kd.R_alloc | apply Kd.R_drewN | apply Kd.R_drew)); exact Kd.R_mono (Kd.R_far (p := ⟨gb1161, 1, none⟩) (Kd.R_far (p := ⟨gb1161, 0, none⟩) (Kd.R_types HO1186.out BK1161.out (by decide)) (fun _ hk => hk.2) (.slice Ao50 t1184.length co50)) (fun _ hk => hk.2) (.slice Ao52 t1187.length co52)) (fun _ hk => hk.1.1.1)⟩, ⟨by (with_reducible repeat (first | apply Kd.R_alloc | apply Kd.R_drewN | apply Kd.R_drew)); exact Kd.R_mono (Kd.R_far (p := ⟨gb1161, 1, none⟩) (Kd.R_far (p := ⟨gb1161, 0, none⟩) (Kd.R_types HO1189.out BK1161.out (by decide)) (fun _ hk => hk.2) (.slice Ao50 t1184.length co50)) (fun _ hk => hk.2) (.slice Ao52 t1187.length co52)) (fun _ hk => hk.1.1.1)⟩, ⟨by (with_reducible repeat (first | refine blk_drewN ?_ _ | refine blk_drew ?_ | refine blk_alloc ?_ _)); refine blk_put (cs := #[.slice Ao50 t1184.length co50, .slice Ao48 x1162001_3.length co48]) ?_ 1 _ rfl; (with_reducible repeat (first | refine blk_drewN ?_ _ | refine blk_drew ?_ | refine blk_alloc ?_ _)); refine blk_put (cs := #[.slice Ao47 x1162000_3.length co47, .slice Ao48 x1162001_3.length co48]) ?_ 0 _ rfl; (with_reducible repeat (first | refine blk_drewN ?_ _ | refine blk_drew ?_ | refine blk_alloc ?_ _)); exact BK1161.out⟩, ⟨by repeat (first | (with_reducible first | exact HB.out | apply below_alloc | apply pw_below_drewN | apply below_drew1 | refine below_set ?_ GE1161.out) | exact HB.out)⟩⟩
                    · rw [if_neg c43] at H
                      exact absurd H (by simp)
                  · rw [if_neg c42] at H
                    have c42b0 : decide (x14_3 < (t1157.length : Int)) = false := decide_eq_false c42
                    clear c42
                    replace H := Option.bind_eq_some_iff.mp H
                    obtain ⟨⟨t1191, t1194, t1197⟩, A540, H⟩ := H
                    replace H : ((customsmade_Within.f a4 (wrap64 ((l3.length : Int) + 9))).bind fun t1199 => ((disk_Crash.f t1191 t1194 t1199).bind fun bt1200 => ((journal_Open.f k3 bt1200.1 bt1200.2).bind fun bt1207 => ((disk_Sync.f t1191 t1194).bind fun bt1221 => ((journal_Open.f k3 bt1221.1 bt1221.2).bind fun bt1227 => (if t1176 = 0 then (if t1197 = 0 then (if bt1207.2.2.2.1 = true then ((customsref33_SameBytes.f bt1207.2.2.1 l2).bind fun t1241 => (if t1241 = true then ((customsref33_SameRecords.f k3 bt1207.2.2.2.2 t1157).bind fun t1242 => (if t1242 = true then (if bt1227.2.2.2.1 = true then ((customsref33_SameBytes.f bt1227.2.2.1 l3).bind fun t1243 => (if t1243 = true then (if (bt1227.2.2.2.2.length : Int) = 0 then ((customslaw34_awake.f k3).bind fun t1244 => (some t1244)) else (none)) else (none))) else (none)) else (none))) else (none))) else (none)) else (none)) else (none))))))) = some r := H
                    have A54 := Aside0.mk A540
                    clear A540
                    replace H := Option.bind_eq_some_iff.mp H
                    obtain ⟨t1199, A550, H⟩ := H
                    replace H : ((disk_Crash.f t1191 t1194 t1199).bind fun bt1200 => ((journal_Open.f k3 bt1200.1 bt1200.2).bind fun bt1207 => ((disk_Sync.f t1191 t1194).bind fun bt1221 => ((journal_Open.f k3 bt1221.1 bt1221.2).bind fun bt1227 => (if t1176 = 0 then (if t1197 = 0 then (if bt1207.2.2.2.1 = true then ((customsref33_SameBytes.f bt1207.2.2.1 l2).bind fun t1241 => (if t1241 = true then ((customsref33_SameRecords.f k3 bt1207.2.2.2.2 t1157).bind fun t1242 => (if t1242 = true then (if bt1227.2.2.2.1 = true then ((customsref33_SameBytes.f bt1227.2.2.1 l3).bind fun t1243 => (if t1243 = true then (if (bt1227.2.2.2.2.length : Int) = 0 then ((customslaw34_awake.f k3).bind fun t1244 => (some t1244)) else (none)) else (none))) else (none)) else (none))) else (none))) else (none)) else (none)) else (none)))))) = some r := H
                    have A55 := Aside0.mk A550
                    clear A550
                    replace H := Option.bind_eq_some_iff.mp H
                    obtain ⟨⟨t1200, t1203⟩, A560, H⟩ := H
                    replace H : ((journal_Open.f k3 t1200 t1203).bind fun bt1207 => ((disk_Sync.f t1191 t1194).bind fun bt1221 => ((journal_Open.f k3 bt1221.1 bt1221.2).bind fun bt1227 => (if t1176 = 0 then (if t1197 = 0 then (if bt1207.2.2.2.1 = true then ((customsref33_SameBytes.f bt1207.2.2.1 l2).bind fun t1241 => (if t1241 = true then ((customsref33_SameRecords.f k3 bt1207.2.2.2.2 t1157).bind fun t1242 => (if t1242 = true then (if bt1227.2.2.2.1 = true then ((customsref33_SameBytes.f bt1227.2.2.1 l3).bind fun t1243 => (if t1243 = true then (if (bt1227.2.2.2.2.length : Int) = 0 then ((customslaw34_awake.f k3).bind fun t1244 => (some t1244)) else (none)) else (none))) else (none)) else (none))) else (none))) else (none)) else (none)) else (none))))) = some r := H
                    have A56 := Aside0.mk A560
                    clear A560
                    replace H := Option.bind_eq_some_iff.mp H
                    obtain ⟨⟨t1207, t1210, t1213, t1216, t1217⟩, A570, H⟩ := H
                    replace H : ((disk_Sync.f t1191 t1194).bind fun bt1221 => ((journal_Open.f k3 bt1221.1 bt1221.2).bind fun bt1227 => (if t1176 = 0 then (if t1197 = 0 then (if t1216 = true then ((customsref33_SameBytes.f t1213 l2).bind fun t1241 => (if t1241 = true then ((customsref33_SameRecords.f k3 t1217 t1157).bind fun t1242 => (if t1242 = true then (if bt1227.2.2.2.1 = true then ((customsref33_SameBytes.f bt1227.2.2.1 l3).bind fun t1243 => (if t1243 = true then (if (bt1227.2.2.2.2.length : Int) = 0 then ((customslaw34_awake.f k3).bind fun t1244 => (some t1244)) else (none)) else (none))) else (none)) else (none))) else (none))) else (none)) else (none)) else (none)))) = some r := H
                    have A57 := Aside0.mk A570
                    clear A570
                    replace H := Option.bind_eq_some_iff.mp H
                    obtain ⟨⟨t1221, t1224⟩, A580, H⟩ := H
                    replace H : ((journal_Open.f k3 t1221 t1224).bind fun bt1227 => (if t1176 = 0 then (if t1197 = 0 then (if t1216 = true then ((customsref33_SameBytes.f t1213 l2).bind fun t1241 => (if t1241 = true then ((customsref33_SameRecords.f k3 t1217 t1157).bind fun t1242 => (if t1242 = true then (if bt1227.2.2.2.1 = true then ((customsref33_SameBytes.f bt1227.2.2.1 l3).bind fun t1243 => (if t1243 = true then (if (bt1227.2.2.2.2.length : Int) = 0 then ((customslaw34_awake.f k3).bind fun t1244 => (some t1244)) else (none)) else (none))) else (none)) else (none))) else (none))) else (none)) else (none)) else (none))) = some r := H
                    have A58 := Aside0.mk A580
                    clear A580
                    replace H := Option.bind_eq_some_iff.mp H
                    obtain ⟨⟨t1227, t1230, t1233, t1236, t1237⟩, A590, H⟩ := H
                    replace H : (if t1176 = 0 then (if t1197 = 0 then (if t1216 = true then ((customsref33_SameBytes.f t1213 l2).bind fun t1241 => (if t1241 = true then ((customsref33_SameRecords.f k3 t1217 t1157).bind fun t1242 => (if t1242 = true then (if t1236 = true then ((customsref33_SameBytes.f t1233 l3).bind fun t1243 => (if t1243 = true then (if (t1237.length : Int) = 0 then ((customslaw34_awake.f k3).bind fun t1244 => (some t1244)) else (none)) else (none))) else (none)) else (none))) else (none))) else (none)) else (none)) else (none)) = some r := H
                    have A59 := Aside0.mk A590
                    clear A590
                    by_cases c60 : t1176 = 0
                    · rw [if_pos c60] at H
                      have c60b0 : (t1176 == 0) = true := beq_iff_eq.mpr c60
                      have c60b1 : (t1176 != 0) = false := bne_eq_false_iff_eq.mpr c60
                      clear c60
                      by_cases c61 : t1197 = 0
                      · rw [if_pos c61] at H
                        have c61b0 : (t1197 == 0) = true := beq_iff_eq.mpr c61
                        have c61b1 : (t1197 != 0) = false := bne_eq_false_iff_eq.mpr c61
                        clear c61
                        by_cases c62 : t1216 = true
                        · subst c62
                          have H1 : ((customsref33_SameBytes.f t1213 l2).bind fun t1241 => (if t1241 = true then ((customsref33_SameRecords.f k3 t1217 t1157).bind fun t1242 => (if t1242 = true then (if t1236 = true then ((customsref33_SameBytes.f t1233 l3).bind fun t1243 => (if t1243 = true then (if (t1237.length : Int) = 0 then ((customslaw34_awake.f k3).bind fun t1244 => (some t1244)) else (none)) else (none))) else (none)) else (none))) else (none))) = some r := by rw [if_pos rfl] at H; exact H
                          clear H
                          have H := H1
                          clear H1
                          replace H := Option.bind_eq_some_iff.mp H
                          obtain ⟨t1241, A630, H⟩ := H
                          replace H : (if t1241 = true then ((customsref33_SameRecords.f k3 t1217 t1157).bind fun t1242 => (if t1242 = true then (if t1236 = true then ((customsref33_SameBytes.f t1233 l3).bind fun t1243 => (if t1243 = true then (if (t1237.length : Int) = 0 then ((customslaw34_awake.f k3).bind fun t1244 => (some t1244)) else (none)) else (none))) else (none)) else (none))) else (none)) = some r := H
                          have A63 := Aside0.mk A630
                          clear A630
                          by_cases c64 : t1241 = true
                          · subst c64
                            have H1 : ((customsref33_SameRecords.f k3 t1217 t1157).bind fun t1242 => (if t1242 = true then (if t1236 = true then ((customsref33_SameBytes.f t1233 l3).bind fun t1243 => (if t1243 = true then (if (t1237.length : Int) = 0 then ((customslaw34_awake.f k3).bind fun t1244 => (some t1244)) else (none)) else (none))) else (none)) else (none))) = some r := by rw [if_pos rfl] at H; exact H
                            clear H
                            have H := H1
                            clear H1
                            replace H := Option.bind_eq_some_iff.mp H
                            obtain ⟨t1242, A650, H⟩ := H
                            replace H : (if t1242 = true then (if t1236 = true then ((customsref33_SameBytes.f t1233 l3).bind fun t1243 => (if t1243 = true then (if (t1237.length : Int) = 0 then ((customslaw34_awake.f k3).bind fun t1244 => (some t1244)) else (none)) else (none))) else (none)) else (none)) = some r := H
                            have A65 := Aside0.mk A650
                            clear A650
                            by_cases c66 : t1242 = true
                            · subst c66
                              have H1 : (if t1236 = true then ((customsref33_SameBytes.f t1233 l3).bind fun t1243 => (if t1243 = true then (if (t1237.length : Int) = 0 then ((customslaw34_awake.f k3).bind fun t1244 => (some t1244)) else (none)) else (none))) else (none)) = some r := by rw [if_pos rfl] at H; exact H
                              clear H
                              have H := H1
                              clear H1
                              by_cases c67 : t1236 = true
                              · subst c67
                                have H1 : ((customsref33_SameBytes.f t1233 l3).bind fun t1243 => (if t1243 = true then (if (t1237.length : Int) = 0 then ((customslaw34_awake.f k3).bind fun t1244 => (some t1244)) else (none)) else (none))) = some r := by rw [if_pos rfl] at H; exact H
                                clear H
                                have H := H1
                                clear H1
                                replace H := Option.bind_eq_some_iff.mp H
                                obtain ⟨t1243, A680, H⟩ := H
                                replace H : (if t1243 = true then (if (t1237.length : Int) = 0 then ((customslaw34_awake.f k3).bind fun t1244 => (some t1244)) else (none)) else (none)) = some r := H
                                have A68 := Aside0.mk A680
                                clear A680
                                by_cases c69 : t1243 = true
                                · subst c69
                                  have H1 : (if (t1237.length : Int) = 0 then ((customslaw34_awake.f k3).bind fun t1244 => (some t1244)) else (none)) = some r := by rw [if_pos rfl] at H; exact H
                                  clear H
                                  have H := H1
                                  clear H1
                                  by_cases c70 : (t1237.length : Int) = 0
                                  · rw [if_pos c70] at H
                                    have c70b0 : ((t1237.length : Int) == 0) = true := beq_iff_eq.mpr c70
                                    have c70b1 : ((t1237.length : Int) != 0) = false := bne_eq_false_iff_eq.mpr c70
                                    clear c70
                                    replace H := Option.bind_eq_some_iff.mp H
                                    obtain ⟨t1244, A710, H⟩ := H
                                    replace H : (some t1244) = some r := H
                                    have A71 := Aside0.mk A710
                                    clear A710
                                    obtain rfl := Option.some.inj H
                                    obtain ⟨Ao72, co72, eo72⟩ := Kd.N_slice HO_1.out
                                    subst eo72
                                    have hcz73_0 : wr.cell? ⟨gb1161, 0, none⟩ = some (u1162000) := (blk_cell BK1161.out 0).trans rfl
                                    have hcz73_1 : wr.cell? ⟨gb1161, 1, none⟩ = some (u1162001) := (blk_cell BK1161.out 1).trans rfl
                                    have hfz73_0 := blk_frozen BK1161.out 0
                                    have hfz73_1 := blk_frozen BK1161.out 1
                                    obtain ⟨Ao74, co74, eo74⟩ := Kd.R_slice HO_1162000.out
                                    subst eo74
                                    obtain ⟨Ao75, co75, eo75⟩ := Kd.R_slice HO_1162001.out
                                    subst eo75
                                    try go_wp2_with (first | ((with_reducible refine gate_callee (f := 58) rfl ?_); refine goesL_ (some 82) rfl rfl Try.func58 (by kernel_rfl) rfl #[.agg #[.slice Ao74 x1162000_3.length co74, .slice Ao75 x1162001_3.length co75], .agg #[.int .i64 2, .slice A3 l3.length c3]] rfl (by (try simp only [List.map_toArray, List.map_cons, List.map_nil]); first | done | rfl | (simp only [List.length_drop, List.length_take]; rfl)) ?_; (with_reducible refine (journal_Put.calls k3 _ _ x1162000_3 _ _ x1162001_3 2 _ _ l3 t1191 t1194 t1197 _ ?side1 ?side2 ?side3 ?side4 ?side5 ?side6 A54.out).mono ?_); (case side1 => repeat (first | exact (Kd.R_reads' HO_1162000.out).2.2 | (with_reducible refine Kd.C_alloc ?_ _) | (with_reducible refine Kd.C_drewN ?_ _) | (with_reducible refine Kd.C_drew ?_))); (case side2 => exact (Kd.R_reads' HO_1162000.out).2.1); (case side3 => repeat (first | exact (Kd.R_reads' HO_1162001.out).2.2 | (with_reducible refine Kd.C_alloc ?_ _) | (with_reducible refine Kd.C_drewN ?_ _) | (with_reducible refine Kd.C_drew ?_))); (case side4 => exact (Kd.R_reads' HO_1162001.out).2.1); (case side5 => repeat (first | exact (Kd.C_below HR3.out HB.out) | (with_reducible refine Kd.C_alloc ?_ _) | (with_reducible refine Kd.C_drewN ?_ _) | (with_reducible refine Kd.C_drew ?_))); (case side6 => exact HC3.out); rintro e w76 ⟨v1192, v1195, rfl, ho0, ho1, hb⟩; refine ⟨_, rfl, ?_⟩; have n0_ := Aside0.mk (Kd.N_mono (Kd.N_told (Kd.N_told (Kd.N_old (by (with_reducible repeat (first | apply Kd.N_alloc | apply Kd.N_drewN | apply Kd.N_drew)); exact HO_1.out) hb) (Kd.R_base ho0)) (Kd.R_base ho1)) (fun _ h_ => h_.1)); have n1_ := Aside0.mk (Kd.R_mono (Kd.R_told (Kd.R_told (Kd.R_old (by (with_reducible repeat (first | apply Kd.R_alloc | apply Kd.R_drewN | apply Kd.R_drew)); exact HO_1162000.out) hb) (Kd.R_base ho0)) (Kd.R_base ho1)) (fun _ h_ => h_.1)); have n2_ := Aside0.mk (Kd.R_mono (Kd.R_told (Kd.R_told (Kd.R_old (by (with_reducible repeat (first | apply Kd.R_alloc | apply Kd.R_drewN | apply Kd.R_drew)); exact HO_1162001.out) hb) (Kd.R_base ho0)) (Kd.R_base ho1)) (fun _ h_ => h_.1)); have n3_ := Aside0.mk (Kd.R_lower (Kd.R_new' (Kd.R_new' ho0 (Kd.R_lt (by (with_reducible repeat (first | apply Kd.R_alloc | apply Kd.R_drewN | apply Kd.R_drew)); exact HO_1162000.out))) (Kd.R_lt (by (with_reducible repeat (first | apply Kd.R_alloc | apply Kd.R_drewN | apply Kd.R_drew)); exact HO_1162001.out))) (below_size (by repeat (first | (with_reducible first | exact HB.out | apply below_alloc | apply pw_below_drewN | apply below_drew1 | refine below_set ?_ GE1161.out) | exact HB.out)))); have n4_ := Aside0.mk (Kd.R_lower (Kd.R_new' (Kd.R_new' ho1 (Kd.R_lt (by (with_reducible repeat (first | apply Kd.R_alloc | apply Kd.R_drewN | apply Kd.R_drew)); exact HO_1162000.out))) (Kd.R_lt (by (with_reducible repeat (first | apply Kd.R_alloc | apply Kd.R_drewN | apply Kd.R_drew)); exact HO_1162001.out))) (below_size (by repeat (first | (with_reducible first | exact HB.out | apply below_alloc | apply pw_below_drewN | apply below_drew1 | refine below_set ?_ GE1161.out) | exact HB.out)))); have n5_ := Aside0.mk (blk_below (g := gb1161) (o := .cells #[.slice Ao74 x1162000_3.length co74, .slice Ao75 x1162001_3.length co75] 24 (0, 0)) (by (with_reducible repeat (first | refine blk_drewN ?_ _ | refine blk_drew ?_ | refine blk_alloc ?_ _)); exact BK1161.out) hb); have n6_ := Aside0.mk (below_step (by repeat (first | (with_reducible first | exact HB.out | apply below_alloc | apply pw_below_drewN | apply below_drew1 | refine below_set ?_ GE1161.out) | exact HB.out)) hb); clear HO_1; clear HO_1162000; clear HO_1162001; clear BK1161; clear HB; have HO_1 := n0_; have HO_1162000 := n1_; have HO_1162001 := n2_; have HO1193 := n3_; have HO1196 := n4_; have BK1161 := n5_; have HB := n6_; clear n0_ n1_ n2_ n3_ n4_ n5_ n6_; (try clear hb); (try clear hb2); (try clear hk); (try clear hi); (try clear ho0); (try clear ho1)) | ((with_reducible refine gate_dst (N := 15) rfl ?_); (try (refine gate_guard (by rfl) ?_; dsimp only)); refine box_event ?hg (N := 15) ?hd (cs := #[.slice none 0 0, .slice none 0 0]) (t := 24) ?hr ?_; (case hd => rfl); (case hg => rfl); (case hr => first | (go_simp; done) | (go_simp; rfl)); intro gb1198 hg w77 hbox hb; have n0_ := Aside0.mk (Kd.N_below (Kd.N_elderB (by (with_reducible repeat (first | apply Kd.N_alloc | apply Kd.N_drewN | apply Kd.N_drew)); exact HO_1.out) gb1198 (Nat.le_of_eq hg.symm)) hb); have n1_ := Aside0.mk (Kd.R_below (by (with_reducible repeat (first | apply Kd.R_alloc | apply Kd.R_drewN | apply Kd.R_drew)); exact HO_1162000.out) hb); have n2_ := Aside0.mk (Kd.R_below (by (with_reducible repeat (first | apply Kd.R_alloc | apply Kd.R_drewN | apply Kd.R_drew)); exact HO_1162001.out) hb); have n3_ := Aside0.mk (Kd.R_below (by (with_reducible repeat (first | apply Kd.R_alloc | apply Kd.R_drewN | apply Kd.R_drew)); exact HO1193.out) hb); have n4_ := Aside0.mk (Kd.R_below (by (with_reducible repeat (first | apply Kd.R_alloc | apply Kd.R_drewN | apply Kd.R_drew)); exact HO1196.out) hb); have n5_ := Aside0.mk (blk_below (g := gb1161) (o := .cells #[.slice Ao74 x1162000_3.length co74, .slice Ao75 x1162001_3.length co75] 24 (0, 0)) (by (with_reducible repeat (first | refine blk_drewN ?_ _ | refine blk_drew ?_ | refine blk_alloc ?_ _)); exact BK1161.out) hb); have n6_ := Aside0.mk (below_step (by repeat (first | (with_reducible first | exact HB.out | apply below_alloc | apply pw_below_drewN | apply below_drew1 | refine below_set ?_ GE1161.out) | exact HB.out)) hb); have n7_ := Aside0.mk (hbox); have n8_ := Aside0.mk ((by rw [hg]; exact (below_size (by repeat (first | (with_reducible first | exact HB.out | apply below_alloc | apply pw_below_drewN | apply below_drew1 | refine below_set ?_ GE1161.out) | exact HB.out))) : w.heap.size ≤ gb1198)); have n9_ := Aside0.mk ((by rw [hg]; exact (below_size (by repeat (first | (with_reducible first | exact HB.out | apply below_alloc | apply pw_below_drewN | apply below_drew1 | refine below_set ?_ GE1161.out) | exact HB.out))) : w.heap.size ≤ gb1198)); have n10_ := Aside0.mk ((by rw [hg]; exact Nat.ne_of_lt (blk_lt (g := gb1161) (o := .cells #[.slice Ao74 x1162000_3.length co74, .slice Ao75 x1162001_3.length co75] 24 (0, 0)) (by (with_reducible repeat (first | refine blk_drewN ?_ _ | refine blk_drew ?_ | refine blk_alloc ?_ _)); exact BK1161.out)) : gb1161 ≠ gb1198)); have n11_ := Aside0.mk ((by rw [hg]; exact Nat.ne_of_gt (blk_lt (g := gb1161) (o := .cells #[.slice Ao74 x1162000_3.length co74, .slice Ao75 x1162001_3.length co75] 24 (0, 0)) (by (with_reducible repeat (first | refine blk_drewN ?_ _ | refine blk_drew ?_ | refine blk_alloc ?_ _)); exact BK1161.out)) : gb1198 ≠ gb1161)); clear HO_1; clear HO_1162000; clear HO_1162001; clear HO1193; clear HO1196; clear BK1161; clear HB; have HO_1 := n0_; have HO_1162000 := n1_; have HO_1162001 := n2_; have HO1193 := n3_; have HO1196 := n4_; have BK1161 := n5_; have HB := n6_; have BK1198 := n7_; have GW1198 := n8_; have GE1198 := n9_; have NB1161_1198 := n10_; have NB1198_1161 := n11_; clear n0_ n1_ n2_ n3_ n4_ n5_ n6_ n7_ n8_ n9_ n10_ n11_; clear hb hbox hg; obtain ⟨Ao78, co78, eo78⟩ := Kd.R_slice HO1193.out; subst eo78; have hnb79 := NB1198_1161.out; have hnc79 := NB1161_1198.out; have hcz80_0 : w77.cell? ⟨gb1198, 0, none⟩ = some (.slice none 0 0) := (blk_cell BK1198.out 0).trans rfl; have hcz80_1 : w77.cell? ⟨gb1198, 1, none⟩ = some (.slice none 0 0) := (blk_cell BK1198.out 1).trans rfl; have hfz80_0 := blk_frozen BK1198.out 0; have hfz80_1 := blk_frozen BK1198.out 1; obtain ⟨Ao81, co81, eo81⟩ := Kd.R_slice HO1196.out; subst eo81))
                                    have n0_ : Aside0 (Kd.N (Kd.slice 5 (Kd.int .u8)) 22 ((w77.setCell ⟨gb1198, 0, none⟩ (.slice Ao78 t1191.length co78)).setCell ⟨gb1198, 1, none⟩ (.slice Ao81 t1194.length co81)) w.heap.size (fun k_ => some k_ ≠ (.slice Ao74 x1162000_3.length co74 : Value).ownBlock ∧ some k_ ≠ (.slice Ao75 x1162001_3.length co75 : Value).ownBlock ∧ some k_ ≠ (.slice Ao78 t1191.length co78 : Value).ownBlock ∧ some k_ ≠ (.slice Ao81 t1194.length co81 : Value).ownBlock ∧ k_ ≠ gb1161 ∧ k_ ≠ gb1198) (.slice Ao72 t1157.length co72) t1157) := ⟨by (with_reducible repeat (first | apply Kd.N_alloc | apply Kd.N_drewN | apply Kd.N_drew)); exact Kd.N_mono (Kd.N_far (p := ⟨gb1198, 1, none⟩) (Kd.N_far (p := ⟨gb1198, 0, none⟩) (Kd.N_mono HO_1.out (fun k_ hk => (⟨hk, hk.2⟩ : _ ∧ k_ ≠ gb1198))) (fun _ hk => hk.2) (.slice Ao78 t1191.length co78)) (fun _ hk => hk.2) (.slice Ao81 t1194.length co81)) (fun _ hk => ⟨hk.1.1.1.1.1, ⟨hk.1.1.1.1.2.1, ⟨hk.1.1.1.2, ⟨hk.1.1.2, ⟨hk.1.1.1.1.2.2, hk.1.2⟩⟩⟩⟩⟩)⟩
                                    have n1_ : Aside0 (Kd.R (Kd.int .u8) 5 ((w77.setCell ⟨gb1198, 0, none⟩ (.slice Ao78 t1191.length co78)).setCell ⟨gb1198, 1, none⟩ (.slice Ao81 t1194.length co81)) w.heap.size (fun k_ => some k_ ≠ (.slice Ao75 x1162001_3.length co75 : Value).ownBlock ∧ some k_ ≠ (.slice Ao78 t1191.length co78 : Value).ownBlock ∧ some k_ ≠ (.slice Ao81 t1194.length co81 : Value).ownBlock) (.slice Ao74 x1162000_3.length co74) x1162000_3) := ⟨by (with_reducible repeat (first | apply Kd.R_alloc | apply Kd.R_drewN | apply Kd.R_drew)); exact Kd.R_mono (Kd.R_far (p := ⟨gb1198, 1, none⟩) (Kd.R_far (p := ⟨gb1198, 0, none⟩) (Kd.R_types HO_1162000.out BK1198.out (by decide)) (fun _ hk => hk.2) (.slice Ao78 t1191.length co78)) (fun _ hk => hk.2) (.slice Ao81 t1194.length co81)) (fun _ hk => ⟨hk.1.1.1, ⟨hk.1.1.2, hk.1.2⟩⟩)⟩
                                    have n2_ : Aside0 (Kd.R (Kd.int .u8) 5 ((w77.setCell ⟨gb1198, 0, none⟩ (.slice Ao78 t1191.length co78)).setCell ⟨gb1198, 1, none⟩ (.slice Ao81 t1194.length co81)) w.heap.size (fun k_ => some k_ ≠ (.slice Ao74 x1162000_3.length co74 : Value).ownBlock ∧ some k_ ≠ (.slice Ao78 t1191.length co78 : Value).ownBlock ∧ some k_ ≠ (.slice Ao81 t1194.length co81 : Value).ownBlock) (.slice Ao75 x1162001_3.length co75) x1162001_3) := ⟨by (with_reducible repeat (first | apply Kd.R_alloc | apply Kd.R_drewN | apply Kd.R_drew)); exact Kd.R_mono (Kd.R_far (p := ⟨gb1198, 1, none⟩) (Kd.R_far (p := ⟨gb1198, 0, none⟩) (Kd.R_types HO_1162001.out BK1198.out (by decide)) (fun _ hk => hk.2) (.slice Ao78 t1191.length co78)) (fun _ hk => hk.2) (.slice Ao81 t1194.length co81)) (fun _ hk => ⟨hk.1.1.1, ⟨hk.1.1.2, hk.1.2⟩⟩)⟩
                                    have n3_ : Aside0 (Kd.R (Kd.int .u8) 5 ((w77.setCell ⟨gb1198, 0, none⟩ (.slice Ao78 t1191.length co78)).setCell ⟨gb1198, 1, none⟩ (.slice Ao81 t1194.length co81)) w.heap.size (fun k_ => some k_ ≠ (.slice Ao74 x1162000_3.length co74 : Value).ownBlock ∧ some k_ ≠ (.slice Ao75 x1162001_3.length co75 : Value).ownBlock ∧ some k_ ≠ (.slice Ao81 t1194.length co81 : Value).ownBlock) (.slice Ao78 t1191.length co78) t1191) := ⟨by (with_reducible repeat (first | apply Kd.R_alloc | apply Kd.R_drewN | apply Kd.R_drew)); exact Kd.R_mono (Kd.R_far (p := ⟨gb1198, 1, none⟩) (Kd.R_far (p := ⟨gb1198, 0, none⟩) (Kd.R_types HO1193.out BK1198.out (by decide)) (fun _ hk => hk.2) (.slice Ao78 t1191.length co78)) (fun _ hk => hk.2) (.slice Ao81 t1194.length co81)) (fun _ hk => ⟨hk.1.1.2, ⟨hk.1.2, hk.1.1.1⟩⟩)⟩
                                    have n4_ : Aside0 (Kd.R (Kd.int .u8) 5 ((w77.setCell ⟨gb1198, 0, none⟩ (.slice Ao78 t1191.length co78)).setCell ⟨gb1198, 1, none⟩ (.slice Ao81 t1194.length co81)) w.heap.size (fun k_ => some k_ ≠ (.slice Ao74 x1162000_3.length co74 : Value).ownBlock ∧ some k_ ≠ (.slice Ao75 x1162001_3.length co75 : Value).ownBlock ∧ some k_ ≠ (.slice Ao78 t1191.length co78 : Value).ownBlock) (.slice Ao81 t1194.length co81) t1194) := ⟨by (with_reducible repeat (first | apply Kd.R_alloc | apply Kd.R_drewN | apply Kd.R_drew)); exact Kd.R_mono (Kd.R_far (p := ⟨gb1198, 1, none⟩) (Kd.R_far (p := ⟨gb1198, 0, none⟩) (Kd.R_types HO1196.out BK1198.out (by decide)) (fun _ hk => hk.2) (.slice Ao78 t1191.length co78)) (fun _ hk => hk.2) (.slice Ao81 t1194.length co81)) (fun _ hk => ⟨hk.1.1.2, ⟨hk.1.2, hk.1.1.1⟩⟩)⟩
                                    have n5_ : Aside0 (((w77.setCell ⟨gb1198, 0, none⟩ (.slice Ao78 t1191.length co78)).setCell ⟨gb1198, 1, none⟩ (.slice Ao81 t1194.length co81)).heap[gb1161]? = some (.cells #[.slice Ao74 x1162000_3.length co74, .slice Ao75 x1162001_3.length co75] 24 (0, 0))) := ⟨by (with_reducible repeat (first | refine blk_drewN ?_ _ | refine blk_drew ?_ | refine blk_alloc ?_ _)); refine blk_far ?_ NB1161_1198.out _; (with_reducible repeat (first | refine blk_drewN ?_ _ | refine blk_drew ?_ | refine blk_alloc ?_ _)); refine blk_far ?_ NB1161_1198.out _; (with_reducible repeat (first | refine blk_drewN ?_ _ | refine blk_drew ?_ | refine blk_alloc ?_ _)); exact BK1161.out⟩
                                    have n6_ : Aside0 (((w77.setCell ⟨gb1198, 0, none⟩ (.slice Ao78 t1191.length co78)).setCell ⟨gb1198, 1, none⟩ (.slice Ao81 t1194.length co81)).heap[gb1198]? = some (.cells #[.slice Ao78 t1191.length co78, .slice Ao81 t1194.length co81] 24 (0, 0))) := ⟨by (with_reducible repeat (first | refine blk_drewN ?_ _ | refine blk_drew ?_ | refine blk_alloc ?_ _)); refine blk_put (cs := #[.slice Ao78 t1191.length co78, .slice none 0 0]) ?_ 1 _ rfl; (with_reducible repeat (first | refine blk_drewN ?_ _ | refine blk_drew ?_ | refine blk_alloc ?_ _)); refine blk_put (cs := #[.slice none 0 0, .slice none 0 0]) ?_ 0 _ rfl; (with_reducible repeat (first | refine blk_drewN ?_ _ | refine blk_drew ?_ | refine blk_alloc ?_ _)); exact BK1198.out⟩
                                    have n7_ : Aside0 (Below w.heap.size w ((w77.setCell ⟨gb1198, 0, none⟩ (.slice Ao78 t1191.length co78)).setCell ⟨gb1198, 1, none⟩ (.slice Ao81 t1194.length co81))) := ⟨by repeat (first | (with_reducible first | exact HB.out | apply below_alloc | apply pw_below_drewN | apply below_drew1 | refine below_set ?_ GE1161.out | refine below_set ?_ GE1198.out) | exact HB.out)⟩
                                    (try clear HO_1)
                                    (try clear HO_1162000)
                                    (try clear HO_1162001)
                                    (try clear HO1193)
                                    (try clear HO1196)
                                    (try clear BK1161)
                                    (try clear BK1198)
                                    (try clear HB)
                                    generalize ((w77.setCell ⟨gb1198, 0, none⟩ (.slice Ao78 t1191.length co78)).setCell ⟨gb1198, 1, none⟩ (.slice Ao81 t1194.length co81)) = w82 at n0_ n1_ n2_ n3_ n4_ n5_ n6_ n7_ ⊢
                                    have HO_1 := n0_
                                    have HO_1162000 := n1_
                                    have HO_1162001 := n2_
                                    have HO1193 := n3_
                                    have HO1196 := n4_
                                    have BK1161 := n5_
                                    have BK1198 := n6_
                                    have HB := n7_
                                    clear n0_ n1_ n2_ n3_ n4_ n5_ n6_ n7_
                                    have n0_ := Aside0.mk (Kd.N_drew HO_1.out)
                                    have n1_ := Aside0.mk (Kd.R_drew HO_1162000.out)
                                    have n2_ := Aside0.mk (Kd.R_drew HO_1162001.out)
                                    have n3_ := Aside0.mk (Kd.R_drew HO1193.out)
                                    have n4_ := Aside0.mk (Kd.R_drew HO1196.out)
                                    have n5_ := Aside0.mk (blk_drew BK1161.out)
                                    have n6_ := Aside0.mk (blk_drew BK1198.out)
                                    have n7_ := Aside0.mk (below_drew1 HB.out)
                                    clear HO_1
                                    clear HO_1162000
                                    clear HO_1162001
                                    clear HO1193
                                    clear HO1196
                                    clear BK1161
                                    clear BK1198
                                    clear HB
                                    have HO_1 := n0_
                                    have HO_1162000 := n1_
                                    have HO_1162001 := n2_
                                    have HO1193 := n3_
                                    have HO1196 := n4_
                                    have BK1161 := n5_
                                    have BK1198 := n6_
                                    have HB := n7_
                                    clear n0_ n1_ n2_ n3_ n4_ n5_ n6_ n7_
                                    refine start_ (n := 9) (S := fun w' => w'.cell? ⟨gb1198, 0, none⟩ = some (.slice Ao78 t1191.length co78) ∧ w'.cell? ⟨gb1198, 1, none⟩ = some (.slice Ao81 t1194.length co81)) (ds := []) #[false, false, false, false, false, false, false, false, false] (by kernel_rfl) rfl rfl ⟨(blk_cell BK1198.out 0).trans rfl, (blk_cell BK1198.out 1).trans rfl⟩ (fun hHeld => ?_); refine with_tabW customslaw34_JournalSnapshot.tab16 customslaw34_JournalSnapshot.bits16 (fun HT_ HW_ => ?_)
                                    generalize w82.drew = w83 at HO_1 HO_1162000 HO_1162001 HO1193 HO1196 BK1161 BK1198 HB hHeld ⊢
                                    refine pure_ (i := 1) (N := some 86) (v := ?_) (a' := ?_) #[false, true, false, false, false, false, false, false, false] rfl rfl (any_of HT_.out (by kernel_rfl)) (fun _ _ _ h => h) (Or.inl ⟨by rfl, ?_⟩) ?_ ?_
                                    rotate_left
                                    · intro w'
                                      go_simp
                                      with_reducible rfl
                                    rotate_left
                                    · simp only [Act.put, List.setIfInBounds_toArray, List.set_cons_zero, List.set_cons_succ, i64_w, i32_w]
                                      rfl
                                    refine pure_ (i := 2) (N := some 87) (v := ?_) (a' := ?_) #[false, true, true, false, false, false, false, false, false] rfl rfl (any_of HT_.out (by kernel_rfl)) (fun _ _ _ h => h) (Or.inl ⟨by rfl, ?_⟩) ?_ ?_
                                    rotate_left
                                    · intro w'
                                      go_simp
                                      with_reducible rfl
                                    rotate_left
                                    · simp only [Act.put, List.setIfInBounds_toArray, List.set_cons_zero, List.set_cons_succ, i64_w, i32_w]
                                      rfl
                                    refine pure_ (i := 3) (N := some 88) (v := ?_) (a' := ?_) #[false, true, true, true, false, false, false, false, false] rfl rfl (any_of HT_.out (by kernel_rfl)) (fun _ _ _ h => h) (Or.inl ⟨by rfl, ?_⟩) ?_ ?_
                                    rotate_left
                                    · intro w'
                                      go_simp
                                      with_reducible rfl
                                    rotate_left
                                    · simp only [Act.put, List.setIfInBounds_toArray, List.set_cons_zero, List.set_cons_succ, i64_w, i32_w]
                                      rfl
                                    refine pure_ (i := 4) (N := some 89) (v := ?_) (a' := ?_) #[false, true, true, true, true, false, false, false, false] rfl rfl (any_of HT_.out (by kernel_rfl)) (fun _ _ _ h => h) (Or.inl ⟨by rfl, ?_⟩) ?_ ?_
                                    rotate_left
                                    · intro w'
                                      go_simp
                                      with_reducible rfl
                                    rotate_left
                                    · simp only [Act.put, List.setIfInBounds_toArray, List.set_cons_zero, List.set_cons_succ, i64_w, i32_w]
                                      rfl
                                    refine take_ (i := 0) (N := some 85) (v := ?_) (a' := ?_) #[true, true, true, true, true, false, false, false, false] rfl rfl (take_ofW HT_.out HW_.out (by kernel_rfl)) (fun _ _ _ h => h) (Or.inl ⟨by rfl, ?_⟩) hHeld ?_ ?_
                                    rotate_left
                                    · rintro w' ⟨s0, s1⟩
                                      go_simp
                                      with_reducible rfl
                                    rotate_left
                                    · simp only [Act.put, List.setIfInBounds_toArray, List.set_cons_zero, List.set_cons_succ, i64_w, i32_w]
                                      rfl
                                    refine join_ (σ := Value × Value × Nat) 1 #[true, true, true, true, true, true, true, true, false] (fun s_ => [(90, .int .i64 t1199), (91, .agg #[s_.1, s_.2.1]), (17, .pointer (some ⟨s_.2.2, 0, none⟩))]) (fun s_ w' => (w'.cell? ⟨gb1198, 0, none⟩ = some (.slice Ao78 t1191.length co78) ∧ w'.cell? ⟨gb1198, 1, none⟩ = some (.slice Ao81 t1194.length co81)) ∧ (Kd.R (Kd.int .u8) 5 w' w.heap.size (fun k_ => some k_ ≠ (.slice Ao81 t1194.length co81 : Value).ownBlock ∧ some k_ ≠ (s_.1 : Value).ownBlock ∧ some k_ ≠ (s_.2.1 : Value).ownBlock ∧ some k_ ≠ (.slice Ao74 x1162000_3.length co74 : Value).ownBlock ∧ some k_ ≠ (.slice Ao75 x1162001_3.length co75 : Value).ownBlock) (.slice Ao78 t1191.length co78) t1191) ∧ (Kd.R (Kd.int .u8) 5 w' w.heap.size (fun k_ => some k_ ≠ (.slice Ao78 t1191.length co78 : Value).ownBlock ∧ some k_ ≠ (s_.1 : Value).ownBlock ∧ some k_ ≠ (s_.2.1 : Value).ownBlock ∧ some k_ ≠ (.slice Ao74 x1162000_3.length co74 : Value).ownBlock ∧ some k_ ≠ (.slice Ao75 x1162001_3.length co75 : Value).ownBlock) (.slice Ao81 t1194.length co81) t1194) ∧ (Kd.R (Kd.int .u8) 5 w' w.heap.size (fun k_ => some k_ ≠ (.slice Ao78 t1191.length co78 : Value).ownBlock ∧ some k_ ≠ (.slice Ao81 t1194.length co81 : Value).ownBlock ∧ some k_ ≠ (s_.2.1 : Value).ownBlock ∧ some k_ ≠ (.slice Ao74 x1162000_3.length co74 : Value).ownBlock ∧ some k_ ≠ (.slice Ao75 x1162001_3.length co75 : Value).ownBlock) s_.1 t1200) ∧ (Kd.R (Kd.int .u8) 5 w' w.heap.size (fun k_ => some k_ ≠ (.slice Ao78 t1191.length co78 : Value).ownBlock ∧ some k_ ≠ (.slice Ao81 t1194.length co81 : Value).ownBlock ∧ some k_ ≠ (s_.1 : Value).ownBlock ∧ some k_ ≠ (.slice Ao74 x1162000_3.length co74 : Value).ownBlock ∧ some k_ ≠ (.slice Ao75 x1162001_3.length co75 : Value).ownBlock) s_.2.1 t1203) ∧ (Kd.N (Kd.slice 5 (Kd.int .u8)) 22 w' w.heap.size (fun k_ => some k_ ≠ (.slice Ao78 t1191.length co78 : Value).ownBlock ∧ some k_ ≠ (.slice Ao81 t1194.length co81 : Value).ownBlock ∧ some k_ ≠ (s_.1 : Value).ownBlock ∧ some k_ ≠ (s_.2.1 : Value).ownBlock ∧ some k_ ≠ (.slice Ao74 x1162000_3.length co74 : Value).ownBlock ∧ some k_ ≠ (.slice Ao75 x1162001_3.length co75 : Value).ownBlock ∧ k_ ≠ gb1161 ∧ k_ ≠ gb1198 ∧ k_ ≠ s_.2.2) (.slice Ao72 t1157.length co72) t1157) ∧ (Kd.R (Kd.int .u8) 5 w' w.heap.size (fun k_ => some k_ ≠ (.slice Ao78 t1191.length co78 : Value).ownBlock ∧ some k_ ≠ (.slice Ao81 t1194.length co81 : Value).ownBlock ∧ some k_ ≠ (s_.1 : Value).ownBlock ∧ some k_ ≠ (s_.2.1 : Value).ownBlock ∧ some k_ ≠ (.slice Ao75 x1162001_3.length co75 : Value).ownBlock) (.slice Ao74 x1162000_3.length co74) x1162000_3) ∧ (Kd.R (Kd.int .u8) 5 w' w.heap.size (fun k_ => some k_ ≠ (.slice Ao78 t1191.length co78 : Value).ownBlock ∧ some k_ ≠ (.slice Ao81 t1194.length co81 : Value).ownBlock ∧ some k_ ≠ (s_.1 : Value).ownBlock ∧ some k_ ≠ (s_.2.1 : Value).ownBlock ∧ some k_ ≠ (.slice Ao74 x1162000_3.length co74 : Value).ownBlock) (.slice Ao75 x1162001_3.length co75) x1162001_3) ∧ (w'.heap[gb1161]? = some (.cells #[.slice Ao74 x1162000_3.length co74, .slice Ao75 x1162001_3.length co75] 24 (0, 0))) ∧ (w'.heap[gb1198]? = some (.cells #[.slice Ao78 t1191.length co78, .slice Ao81 t1194.length co81] 24 (0, 0))) ∧ (w'.heap[s_.2.2]? = some (.cells #[.slice none 0 0, .slice none 0 0] 24 (0, 0))) ∧ (w.heap.size ≤ s_.2.2) ∧ (w.heap.size ≤ s_.2.2) ∧ (gb1161 ≠ s_.2.2) ∧ (s_.2.2 ≠ gb1161) ∧ (gb1198 ≠ s_.2.2) ∧ (s_.2.2 ≠ gb1198) ∧ (Below w.heap.size w w')) ?_ ?_
                                    rotate_left
                                    · intro hCont
                                      refine two_ (i := 5) (j := 7) (Ni := some 90) (Nj := some 17) #[true, true, true, true, true, true, false, false, false] #[true, true, true, true, true, false, false, true, false] rfl rfl rfl rfl (two_of HT_.out (by kernel_rfl)) (by decide) (by decide) (fun K hK => ?_) (fun K hK => ?_)
                                      · skip
                                        refine goes_ Try.func27 (by kernel_rfl) rfl #[.int .i64 a4, .int .i64 (wrap64 ((l3.length : Int) + 9))] (by rfl) rfl rfl (by (try simp only [List.map_toArray, List.map_cons, List.map_nil]); first | done | rfl | (simp only [List.length_drop, List.length_take]; rfl)) ?_
                                        with_reducible refine (customsmade_Within.calls a4 (wrap64 ((l3.length : Int) + 9)) t1199 _ A55.out).mono ?_
                                        rintro e w' ⟨rfl, ⟨nd, rfl⟩⟩
                                        refine ⟨_, rfl, ?_⟩
                                        refine hK.out _ _ ⟨(blk_cell BK1198.out 0).trans rfl, (blk_cell BK1198.out 1).trans rfl⟩ (fun hHeld => ?_)
                                        clear hK K
                                        refine norm_ (a' := ?_) ?_ ?_
                                        rotate_left
                                        · show Act.put _ (some 90) _ = _
                                          simp only [Act.put, List.setIfInBounds_toArray, List.set_cons_zero, List.set_cons_succ, i64_w, i32_w]
                                          rfl
                                        refine two_ (i := 6) (j := 7) (Ni := some 91) (Nj := some 17) #[true, true, true, true, true, true, true, false, false] #[true, true, true, true, true, true, false, true, false] rfl rfl rfl rfl (two_of HT_.out (by kernel_rfl)) (by decide) (by decide) (fun K hK => ?_) (fun K hK => ?_)
                                        · skip
                                          refine goes_ Try.func25 (by kernel_rfl) rfl #[.agg #[.slice Ao78 t1191.length co78, .slice Ao81 t1194.length co81], .int .i64 t1199] (by rfl) rfl rfl (by (try simp only [List.map_toArray, List.map_cons, List.map_nil]); first | done | rfl | (simp only [List.length_drop, List.length_take]; rfl)) ?_
                                          with_reducible refine (disk_Crash.calls _ _ t1191 _ _ t1194 t1199 t1200 t1203 _ ?side1 ?side2 ?side3 ?side4 A56.out).mono ?_
                                          (case side1 => repeat (first | exact (Kd.R_reads' HO1193.out).2.2 | (with_reducible refine Kd.C_alloc ?_ _) | (with_reducible refine Kd.C_drewN ?_ _) | (with_reducible refine Kd.C_drew ?_)))
                                          (case side2 => exact (Kd.R_reads' HO1193.out).2.1)
                                          (case side3 => repeat (first | exact (Kd.R_reads' HO1196.out).2.2 | (with_reducible refine Kd.C_alloc ?_ _) | (with_reducible refine Kd.C_drewN ?_ _) | (with_reducible refine Kd.C_drew ?_)))
                                          (case side4 => exact (Kd.R_reads' HO1196.out).2.1)
                                          rintro e w84 ⟨v1201, v1204, rfl, ho0, ho1, hb⟩
                                          refine ⟨_, rfl, ?_⟩
                                          have n0_ := Aside0.mk (Kd.N_mono (Kd.N_told (Kd.N_told (Kd.N_old (by (with_reducible repeat (first | apply Kd.N_alloc | apply Kd.N_drewN | apply Kd.N_drew)); exact HO_1.out) hb) (Kd.R_base ho0)) (Kd.R_base ho1)) (fun _ h_ => h_.1))
                                          have n1_ := Aside0.mk (Kd.R_mono (Kd.R_told (Kd.R_told (Kd.R_old (by (with_reducible repeat (first | apply Kd.R_alloc | apply Kd.R_drewN | apply Kd.R_drew)); exact HO_1162000.out) hb) (Kd.R_base ho0)) (Kd.R_base ho1)) (fun _ h_ => h_.1))
                                          have n2_ := Aside0.mk (Kd.R_mono (Kd.R_told (Kd.R_told (Kd.R_old (by (with_reducible repeat (first | apply Kd.R_alloc | apply Kd.R_drewN | apply Kd.R_drew)); exact HO_1162001.out) hb) (Kd.R_base ho0)) (Kd.R_base ho1)) (fun _ h_ => h_.1))
                                          have n3_ := Aside0.mk (Kd.R_mono (Kd.R_told (Kd.R_told (Kd.R_old (by (with_reducible repeat (first | apply Kd.R_alloc | apply Kd.R_drewN | apply Kd.R_drew)); exact HO1193.out) hb) (Kd.R_base ho0)) (Kd.R_base ho1)) (fun _ h_ => h_.1))
                                          have n4_ := Aside0.mk (Kd.R_mono (Kd.R_told (Kd.R_told (Kd.R_old (by (with_reducible repeat (first | apply Kd.R_alloc | apply Kd.R_drewN | apply Kd.R_drew)); exact HO1196.out) hb) (Kd.R_base ho0)) (Kd.R_base ho1)) (fun _ h_ => h_.1))
                                          have n5_ := Aside0.mk (Kd.R_lower (Kd.R_new' (Kd.R_new' (Kd.R_new' (Kd.R_new' ho0 (Kd.R_lt (by (with_reducible repeat (first | apply Kd.R_alloc | apply Kd.R_drewN | apply Kd.R_drew)); exact HO_1162000.out))) (Kd.R_lt (by (with_reducible repeat (first | apply Kd.R_alloc | apply Kd.R_drewN | apply Kd.R_drew)); exact HO_1162001.out))) (Kd.R_lt (by (with_reducible repeat (first | apply Kd.R_alloc | apply Kd.R_drewN | apply Kd.R_drew)); exact HO1193.out))) (Kd.R_lt (by (with_reducible repeat (first | apply Kd.R_alloc | apply Kd.R_drewN | apply Kd.R_drew)); exact HO1196.out))) (below_size (by repeat (first | (with_reducible first | exact HB.out | apply below_alloc | apply pw_below_drewN | apply below_drew1 | refine below_set ?_ GE1161.out | refine below_set ?_ GE1198.out) | exact HB.out))))
                                          have n6_ := Aside0.mk (Kd.R_lower (Kd.R_new' (Kd.R_new' (Kd.R_new' (Kd.R_new' ho1 (Kd.R_lt (by (with_reducible repeat (first | apply Kd.R_alloc | apply Kd.R_drewN | apply Kd.R_drew)); exact HO_1162000.out))) (Kd.R_lt (by (with_reducible repeat (first | apply Kd.R_alloc | apply Kd.R_drewN | apply Kd.R_drew)); exact HO_1162001.out))) (Kd.R_lt (by (with_reducible repeat (first | apply Kd.R_alloc | apply Kd.R_drewN | apply Kd.R_drew)); exact HO1193.out))) (Kd.R_lt (by (with_reducible repeat (first | apply Kd.R_alloc | apply Kd.R_drewN | apply Kd.R_drew)); exact HO1196.out))) (below_size (by repeat (first | (with_reducible first | exact HB.out | apply below_alloc | apply pw_below_drewN | apply below_drew1 | refine below_set ?_ GE1161.out | refine below_set ?_ GE1198.out) | exact HB.out))))
                                          have n7_ := Aside0.mk (blk_below (g := gb1161) (o := .cells #[.slice Ao74 x1162000_3.length co74, .slice Ao75 x1162001_3.length co75] 24 (0, 0)) (by (with_reducible repeat (first | refine blk_drewN ?_ _ | refine blk_drew ?_ | refine blk_alloc ?_ _)); exact BK1161.out) hb)
                                          have n8_ := Aside0.mk (blk_below (g := gb1198) (o := .cells #[.slice Ao78 t1191.length co78, .slice Ao81 t1194.length co81] 24 (0, 0)) (by (with_reducible repeat (first | refine blk_drewN ?_ _ | refine blk_drew ?_ | refine blk_alloc ?_ _)); exact BK1198.out) hb)
                                          have n9_ := Aside0.mk (below_step (by repeat (first | (with_reducible first | exact HB.out | apply below_alloc | apply pw_below_drewN | apply below_drew1 | refine below_set ?_ GE1161.out | refine below_set ?_ GE1198.out) | exact HB.out)) hb)
                                          clear HO_1
                                          clear HO_1162000
                                          clear HO_1162001
                                          clear HO1193
                                          clear HO1196
                                          clear BK1161
                                          clear BK1198
                                          clear HB
                                          have HO_1 := n0_
                                          have HO_1162000 := n1_
                                          have HO_1162001 := n2_
                                          have HO1193 := n3_
                                          have HO1196 := n4_
                                          have HO1202 := n5_
                                          have HO1205 := n6_
                                          have BK1161 := n7_
                                          have BK1198 := n8_
                                          have HB := n9_
                                          clear n0_ n1_ n2_ n3_ n4_ n5_ n6_ n7_ n8_ n9_
                                          (try clear hb)
                                          (try clear hb2)
                                          (try clear hk)
                                          (try clear hi)
                                          (try clear ho0)
                                          (try clear ho1)
                                          refine hK.out _ _ ⟨(blk_cell BK1198.out 0).trans rfl, (blk_cell BK1198.out 1).trans rfl⟩ (fun hHeld => ?_)
                                          clear hK K
                                          refine norm_ (a' := ?_) ?_ ?_
                                          rotate_left
                                          · show Act.put _ (some 91) _ = _
                                            simp only [Act.put, List.setIfInBounds_toArray, List.set_cons_zero, List.set_cons_succ, i64_w, i32_w]
                                            rfl
                                          refine one_ (i := 7) (N := some 17) #[true, true, true, true, true, true, true, true, false] rfl rfl (one_of HT_.out (by kernel_rfl)) (by decide) (fun K hK => ?_)
                                          refine box_step ?hg (N := 17) ?hd (cs := #[.slice none 0 0, .slice none 0 0]) (t := 24) ?hr ?_; (case hd => rfl); (case hg => rfl); (case hr => first | (go_simp; done) | (go_simp; rfl))
                                          intro gb1206 hg w85 hbox hb
                                          have n0_ := Aside0.mk (Kd.N_below (Kd.N_elderB (by (with_reducible repeat (first | apply Kd.N_alloc | apply Kd.N_drewN | apply Kd.N_drew)); exact HO_1.out) gb1206 (Nat.le_of_eq hg.symm)) hb)
                                          have n1_ := Aside0.mk (Kd.R_below (by (with_reducible repeat (first | apply Kd.R_alloc | apply Kd.R_drewN | apply Kd.R_drew)); exact HO_1162000.out) hb)
                                          have n2_ := Aside0.mk (Kd.R_below (by (with_reducible repeat (first | apply Kd.R_alloc | apply Kd.R_drewN | apply Kd.R_drew)); exact HO_1162001.out) hb)
                                          have n3_ := Aside0.mk (Kd.R_below (by (with_reducible repeat (first | apply Kd.R_alloc | apply Kd.R_drewN | apply Kd.R_drew)); exact HO1193.out) hb)
                                          have n4_ := Aside0.mk (Kd.R_below (by (with_reducible repeat (first | apply Kd.R_alloc | apply Kd.R_drewN | apply Kd.R_drew)); exact HO1196.out) hb)
                                          have n5_ := Aside0.mk (Kd.R_below (by (with_reducible repeat (first | apply Kd.R_alloc | apply Kd.R_drewN | apply Kd.R_drew)); exact HO1202.out) hb)
                                          have n6_ := Aside0.mk (Kd.R_below (by (with_reducible repeat (first | apply Kd.R_alloc | apply Kd.R_drewN | apply Kd.R_drew)); exact HO1205.out) hb)
                                          have n7_ := Aside0.mk (blk_below (g := gb1161) (o := .cells #[.slice Ao74 x1162000_3.length co74, .slice Ao75 x1162001_3.length co75] 24 (0, 0)) (by (with_reducible repeat (first | refine blk_drewN ?_ _ | refine blk_drew ?_ | refine blk_alloc ?_ _)); exact BK1161.out) hb)
                                          have n8_ := Aside0.mk (blk_below (g := gb1198) (o := .cells #[.slice Ao78 t1191.length co78, .slice Ao81 t1194.length co81] 24 (0, 0)) (by (with_reducible repeat (first | refine blk_drewN ?_ _ | refine blk_drew ?_ | refine blk_alloc ?_ _)); exact BK1198.out) hb)
                                          have n9_ := Aside0.mk (below_step (by repeat (first | (with_reducible first | exact HB.out | apply below_alloc | apply pw_below_drewN | apply below_drew1 | refine below_set ?_ GE1161.out | refine below_set ?_ GE1198.out) | exact HB.out)) hb)
                                          have n10_ := Aside0.mk (hbox)
                                          have n11_ := Aside0.mk ((by rw [hg]; exact (below_size (by repeat (first | (with_reducible first | exact HB.out | apply below_alloc | apply pw_below_drewN | apply below_drew1 | refine below_set ?_ GE1161.out | refine below_set ?_ GE1198.out) | exact HB.out))) : w.heap.size ≤ gb1206))
                                          have n12_ := Aside0.mk ((by rw [hg]; exact (below_size (by repeat (first | (with_reducible first | exact HB.out | apply below_alloc | apply pw_below_drewN | apply below_drew1 | refine below_set ?_ GE1161.out | refine below_set ?_ GE1198.out) | exact HB.out))) : w.heap.size ≤ gb1206))
                                          have n13_ := Aside0.mk ((by rw [hg]; exact Nat.ne_of_lt (blk_lt (g := gb1161) (o := .cells #[.slice Ao74 x1162000_3.length co74, .slice Ao75 x1162001_3.length co75] 24 (0, 0)) (by (with_reducible repeat (first | refine blk_drewN ?_ _ | refine blk_drew ?_ | refine blk_alloc ?_ _)); exact BK1161.out)) : gb1161 ≠ gb1206))
                                          have n14_ := Aside0.mk ((by rw [hg]; exact Nat.ne_of_gt (blk_lt (g := gb1161) (o := .cells #[.slice Ao74 x1162000_3.length co74, .slice Ao75 x1162001_3.length co75] 24 (0, 0)) (by (with_reducible repeat (first | refine blk_drewN ?_ _ | refine blk_drew ?_ | refine blk_alloc ?_ _)); exact BK1161.out)) : gb1206 ≠ gb1161))
                                          have n15_ := Aside0.mk ((by rw [hg]; exact Nat.ne_of_lt (blk_lt (g := gb1198) (o := .cells #[.slice Ao78 t1191.length co78, .slice Ao81 t1194.length co81] 24 (0, 0)) (by (with_reducible repeat (first | refine blk_drewN ?_ _ | refine blk_drew ?_ | refine blk_alloc ?_ _)); exact BK1198.out)) : gb1198 ≠ gb1206))
                                          have n16_ := Aside0.mk ((by rw [hg]; exact Nat.ne_of_gt (blk_lt (g := gb1198) (o := .cells #[.slice Ao78 t1191.length co78, .slice Ao81 t1194.length co81] 24 (0, 0)) (by (with_reducible repeat (first | refine blk_drewN ?_ _ | refine blk_drew ?_ | refine blk_alloc ?_ _)); exact BK1198.out)) : gb1206 ≠ gb1198))
                                          clear HO_1
                                          clear HO_1162000
                                          clear HO_1162001
                                          clear HO1193
                                          clear HO1196
                                          clear HO1202
                                          clear HO1205
                                          clear BK1161
                                          clear BK1198
                                          clear HB
                                          have HO_1 := n0_
                                          have HO_1162000 := n1_
                                          have HO_1162001 := n2_
                                          have HO1193 := n3_
                                          have HO1196 := n4_
                                          have HO1202 := n5_
                                          have HO1205 := n6_
                                          have BK1161 := n7_
                                          have BK1198 := n8_
                                          have HB := n9_
                                          have BK1206 := n10_
                                          have GW1206 := n11_
                                          have GE1206 := n12_
                                          have NB1161_1206 := n13_
                                          have NB1206_1161 := n14_
                                          have NB1198_1206 := n15_
                                          have NB1206_1198 := n16_
                                          clear n0_ n1_ n2_ n3_ n4_ n5_ n6_ n7_ n8_ n9_ n10_ n11_ n12_ n13_ n14_ n15_ n16_
                                          clear hb hbox hg
                                          refine hK.out _ _ ⟨(blk_cell BK1198.out 0).trans rfl, (blk_cell BK1198.out 1).trans rfl⟩ (fun hHeld => ?_)
                                          clear hK K
                                          refine norm_ (a' := ?_) ?_ ?_
                                          rotate_left
                                          · show Act.put _ (some 17) _ = _
                                            simp only [Act.put, List.setIfInBounds_toArray, List.set_cons_zero, List.set_cons_succ, i64_w, i32_w]
                                            rfl
                                          exact norm_ (by simp only [putAll, Act.put, List.setIfInBounds_toArray, List.set_cons_zero, List.set_cons_succ]) (hCont (v1201, v1204, gb1206) _ ⟨hHeld, (by (with_reducible repeat (first | apply Kd.R_alloc | apply Kd.R_drewN | apply Kd.R_drew)); exact Kd.R_mono HO1193.out (fun _ hk => ⟨hk.1.1.2.2, ⟨hk.1.2, ⟨hk.2, ⟨hk.1.1.1, hk.1.1.2.1⟩⟩⟩⟩)), (by (with_reducible repeat (first | apply Kd.R_alloc | apply Kd.R_drewN | apply Kd.R_drew)); exact Kd.R_mono HO1196.out (fun _ hk => ⟨hk.1.1.2.2, ⟨hk.1.2, ⟨hk.2, ⟨hk.1.1.1, hk.1.1.2.1⟩⟩⟩⟩)), (by (with_reducible repeat (first | apply Kd.R_alloc | apply Kd.R_drewN | apply Kd.R_drew)); exact Kd.R_mono HO1202.out (fun _ hk => ⟨hk.1.2, ⟨hk.2, ⟨hk.1.1.1.1, ⟨hk.1.1.1.2, hk.1.1.2⟩⟩⟩⟩)), (by (with_reducible repeat (first | apply Kd.R_alloc | apply Kd.R_drewN | apply Kd.R_drew)); exact Kd.R_mono HO1205.out (fun _ hk => ⟨hk.1.2, ⟨hk.2, ⟨hk.1.1.1.1, ⟨hk.1.1.1.2, hk.1.1.2⟩⟩⟩⟩)), (by (with_reducible repeat (first | apply Kd.N_alloc | apply Kd.N_drewN | apply Kd.N_drew)); exact Kd.N_mono HO_1.out (fun _ hk => ⟨hk.1.1.1.2.2.1, ⟨hk.1.1.1.2.2.2.1, ⟨hk.1.1.2, ⟨hk.1.2, ⟨hk.1.1.1.1, ⟨hk.1.1.1.2.1, ⟨hk.1.1.1.2.2.2.2.1, ⟨hk.1.1.1.2.2.2.2.2, hk.2⟩⟩⟩⟩⟩⟩⟩⟩)), (by (with_reducible repeat (first | apply Kd.R_alloc | apply Kd.R_drewN | apply Kd.R_drew)); exact Kd.R_mono HO_1162000.out (fun _ hk => ⟨hk.1.1.2.1, ⟨hk.1.1.2.2, ⟨hk.1.2, ⟨hk.2, hk.1.1.1⟩⟩⟩⟩)), (by (with_reducible repeat (first | apply Kd.R_alloc | apply Kd.R_drewN | apply Kd.R_drew)); exact Kd.R_mono HO_1162001.out (fun _ hk => ⟨hk.1.1.2.1, ⟨hk.1.1.2.2, ⟨hk.1.2, ⟨hk.2, hk.1.1.1⟩⟩⟩⟩)), (by (with_reducible repeat (first | refine blk_drewN ?_ _ | refine blk_drew ?_ | refine blk_alloc ?_ _)); exact BK1161.out), (by (with_reducible repeat (first | refine blk_drewN ?_ _ | refine blk_drew ?_ | refine blk_alloc ?_ _)); exact BK1198.out), (by (with_reducible repeat (first | refine blk_drewN ?_ _ | refine blk_drew ?_ | refine blk_alloc ?_ _)); exact BK1206.out), GW1206.out, GE1206.out, NB1161_1206.out, NB1206_1161.out, NB1198_1206.out, NB1206_1198.out, (by repeat (first | (with_reducible first | exact HB.out | apply below_alloc | apply pw_below_drewN | apply below_drew1 | refine below_set ?_ GE1161.out | refine below_set ?_ GE1198.out | refine below_set ?_ GE1206.out) | exact HB.out))⟩)
                                        · skip
                                          refine box_step ?hg (N := 17) ?hd (cs := #[.slice none 0 0, .slice none 0 0]) (t := 24) ?hr ?_; (case hd => rfl); (case hg => rfl); (case hr => first | (go_simp; done) | (go_simp; rfl))
                                          intro gb1206 hg w84 hbox hb
                                          have n0_ := Aside0.mk (Kd.N_below (Kd.N_elderB (by (with_reducible repeat (first | apply Kd.N_alloc | apply Kd.N_drewN | apply Kd.N_drew)); exact HO_1.out) gb1206 (Nat.le_of_eq hg.symm)) hb)
                                          have n1_ := Aside0.mk (Kd.R_below (by (with_reducible repeat (first | apply Kd.R_alloc | apply Kd.R_drewN | apply Kd.R_drew)); exact HO_1162000.out) hb)
                                          have n2_ := Aside0.mk (Kd.R_below (by (with_reducible repeat (first | apply Kd.R_alloc | apply Kd.R_drewN | apply Kd.R_drew)); exact HO_1162001.out) hb)
                                          have n3_ := Aside0.mk (Kd.R_below (by (with_reducible repeat (first | apply Kd.R_alloc | apply Kd.R_drewN | apply Kd.R_drew)); exact HO1193.out) hb)
                                          have n4_ := Aside0.mk (Kd.R_below (by (with_reducible repeat (first | apply Kd.R_alloc | apply Kd.R_drewN | apply Kd.R_drew)); exact HO1196.out) hb)
                                          have n5_ := Aside0.mk (blk_below (g := gb1161) (o := .cells #[.slice Ao74 x1162000_3.length co74, .slice Ao75 x1162001_3.length co75] 24 (0, 0)) (by (with_reducible repeat (first | refine blk_drewN ?_ _ | refine blk_drew ?_ | refine blk_alloc ?_ _)); exact BK1161.out) hb)
                                          have n6_ := Aside0.mk (blk_below (g := gb1198) (o := .cells #[.slice Ao78 t1191.length co78, .slice Ao81 t1194.length co81] 24 (0, 0)) (by (with_reducible repeat (first | refine blk_drewN ?_ _ | refine blk_drew ?_ | refine blk_alloc ?_ _)); exact BK1198.out) hb)
                                          have n7_ := Aside0.mk (below_step (by repeat (first | (with_reducible first | exact HB.out | apply below_alloc | apply pw_below_drewN | apply below_drew1 | refine below_set ?_ GE1161.out | refine below_set ?_ GE1198.out) | exact HB.out)) hb)
                                          have n8_ := Aside0.mk (hbox)
                                          have n9_ := Aside0.mk ((by rw [hg]; exact (below_size (by repeat (first | (with_reducible first | exact HB.out | apply below_alloc | apply pw_below_drewN | apply below_drew1 | refine below_set ?_ GE1161.out | refine below_set ?_ GE1198.out) | exact HB.out))) : w.heap.size ≤ gb1206))
                                          have n10_ := Aside0.mk ((by rw [hg]; exact (below_size (by repeat (first | (with_reducible first | exact HB.out | apply below_alloc | apply pw_below_drewN | apply below_drew1 | refine below_set ?_ GE1161.out | refine below_set ?_ GE1198.out) | exact HB.out))) : w.heap.size ≤ gb1206))
                                          have n11_ := Aside0.mk ((by rw [hg]; exact Nat.ne_of_lt (blk_lt (g := gb1161) (o := .cells #[.slice Ao74 x1162000_3.length co74, .slice Ao75 x1162001_3.length co75] 24 (0, 0)) (by (with_reducible repeat (first | refine blk_drewN ?_ _ | refine blk_drew ?_ | refine blk_alloc ?_ _)); exact BK1161.out)) : gb1161 ≠ gb1206))
                                          have n12_ := Aside0.mk ((by rw [hg]; exact Nat.ne_of_gt (blk_lt (g := gb1161) (o := .cells #[.slice Ao74 x1162000_3.length co74, .slice Ao75 x1162001_3.length co75] 24 (0, 0)) (by (with_reducible repeat (first | refine blk_drewN ?_ _ | refine blk_drew ?_ | refine blk_alloc ?_ _)); exact BK1161.out)) : gb1206 ≠ gb1161))
                                          have n13_ := Aside0.mk ((by rw [hg]; exact Nat.ne_of_lt (blk_lt (g := gb1198) (o := .cells #[.slice Ao78 t1191.length co78, .slice Ao81 t1194.length co81] 24 (0, 0)) (by (with_reducible repeat (first | refine blk_drewN ?_ _ | refine blk_drew ?_ | refine blk_alloc ?_ _)); exact BK1198.out)) : gb1198 ≠ gb1206))
                                          have n14_ := Aside0.mk ((by rw [hg]; exact Nat.ne_of_gt (blk_lt (g := gb1198) (o := .cells #[.slice Ao78 t1191.length co78, .slice Ao81 t1194.length co81] 24 (0, 0)) (by (with_reducible repeat (first | refine blk_drewN ?_ _ | refine blk_drew ?_ | refine blk_alloc ?_ _)); exact BK1198.out)) : gb1206 ≠ gb1198))
                                          clear HO_1
                                          clear HO_1162000
                                          clear HO_1162001
                                          clear HO1193
                                          clear HO1196
                                          clear BK1161
                                          clear BK1198
                                          clear HB
                                          have HO_1 := n0_
                                          have HO_1162000 := n1_
                                          have HO_1162001 := n2_
                                          have HO1193 := n3_
                                          have HO1196 := n4_
                                          have BK1161 := n5_
                                          have BK1198 := n6_
                                          have HB := n7_
                                          have BK1206 := n8_
                                          have GW1206 := n9_
                                          have GE1206 := n10_
                                          have NB1161_1206 := n11_
                                          have NB1206_1161 := n12_
                                          have NB1198_1206 := n13_
                                          have NB1206_1198 := n14_
                                          clear n0_ n1_ n2_ n3_ n4_ n5_ n6_ n7_ n8_ n9_ n10_ n11_ n12_ n13_ n14_
                                          clear hb hbox hg
                                          refine hK.out _ _ ⟨(blk_cell BK1198.out 0).trans rfl, (blk_cell BK1198.out 1).trans rfl⟩ (fun hHeld => ?_)
                                          clear hK K
                                          refine norm_ (a' := ?_) ?_ ?_
                                          rotate_left
                                          · show Act.put _ (some 17) _ = _
                                            simp only [Act.put, List.setIfInBounds_toArray, List.set_cons_zero, List.set_cons_succ, i64_w, i32_w]
                                            rfl
                                          refine one_ (i := 6) (N := some 91) #[true, true, true, true, true, true, true, true, false] rfl rfl (one_of HT_.out (by kernel_rfl)) (by decide) (fun K hK => ?_)
                                          refine goes_ Try.func25 (by kernel_rfl) rfl #[.agg #[.slice Ao78 t1191.length co78, .slice Ao81 t1194.length co81], .int .i64 t1199] (by rfl) rfl rfl (by (try simp only [List.map_toArray, List.map_cons, List.map_nil]); first | done | rfl | (simp only [List.length_drop, List.length_take]; rfl)) ?_
                                          with_reducible refine (disk_Crash.calls _ _ t1191 _ _ t1194 t1199 t1200 t1203 _ ?side1 ?side2 ?side3 ?side4 A56.out).mono ?_
                                          (case side1 => repeat (first | exact (Kd.R_reads' HO1193.out).2.2 | (with_reducible refine Kd.C_alloc ?_ _) | (with_reducible refine Kd.C_drewN ?_ _) | (with_reducible refine Kd.C_drew ?_)))
                                          (case side2 => exact (Kd.R_reads' HO1193.out).2.1)
                                          (case side3 => repeat (first | exact (Kd.R_reads' HO1196.out).2.2 | (with_reducible refine Kd.C_alloc ?_ _) | (with_reducible refine Kd.C_drewN ?_ _) | (with_reducible refine Kd.C_drew ?_)))
                                          (case side4 => exact (Kd.R_reads' HO1196.out).2.1)
                                          rintro e w85 ⟨v1201, v1204, rfl, ho0, ho1, hb⟩
                                          refine ⟨_, rfl, ?_⟩
                                          have n0_ := Aside0.mk (Kd.N_mono (Kd.N_told (Kd.N_told (Kd.N_old (by (with_reducible repeat (first | apply Kd.N_alloc | apply Kd.N_drewN | apply Kd.N_drew)); exact HO_1.out) hb) (Kd.R_base ho0)) (Kd.R_base ho1)) (fun _ h_ => h_.1))
                                          have n1_ := Aside0.mk (Kd.R_mono (Kd.R_told (Kd.R_told (Kd.R_old (by (with_reducible repeat (first | apply Kd.R_alloc | apply Kd.R_drewN | apply Kd.R_drew)); exact HO_1162000.out) hb) (Kd.R_base ho0)) (Kd.R_base ho1)) (fun _ h_ => h_.1))
                                          have n2_ := Aside0.mk (Kd.R_mono (Kd.R_told (Kd.R_told (Kd.R_old (by (with_reducible repeat (first | apply Kd.R_alloc | apply Kd.R_drewN | apply Kd.R_drew)); exact HO_1162001.out) hb) (Kd.R_base ho0)) (Kd.R_base ho1)) (fun _ h_ => h_.1))
                                          have n3_ := Aside0.mk (Kd.R_mono (Kd.R_told (Kd.R_told (Kd.R_old (by (with_reducible repeat (first | apply Kd.R_alloc | apply Kd.R_drewN | apply Kd.R_drew)); exact HO1193.out) hb) (Kd.R_base ho0)) (Kd.R_base ho1)) (fun _ h_ => h_.1))
                                          have n4_ := Aside0.mk (Kd.R_mono (Kd.R_told (Kd.R_told (Kd.R_old (by (with_reducible repeat (first | apply Kd.R_alloc | apply Kd.R_drewN | apply Kd.R_drew)); exact HO1196.out) hb) (Kd.R_base ho0)) (Kd.R_base ho1)) (fun _ h_ => h_.1))
                                          have n5_ := Aside0.mk (Kd.R_lower (Kd.R_new' (Kd.R_new' (Kd.R_new' (Kd.R_new' ho0 (Kd.R_lt (by (with_reducible repeat (first | apply Kd.R_alloc | apply Kd.R_drewN | apply Kd.R_drew)); exact HO_1162000.out))) (Kd.R_lt (by (with_reducible repeat (first | apply Kd.R_alloc | apply Kd.R_drewN | apply Kd.R_drew)); exact HO_1162001.out))) (Kd.R_lt (by (with_reducible repeat (first | apply Kd.R_alloc | apply Kd.R_drewN | apply Kd.R_drew)); exact HO1193.out))) (Kd.R_lt (by (with_reducible repeat (first | apply Kd.R_alloc | apply Kd.R_drewN | apply Kd.R_drew)); exact HO1196.out))) (below_size (by repeat (first | (with_reducible first | exact HB.out | apply below_alloc | apply pw_below_drewN | apply below_drew1 | refine below_set ?_ GE1161.out | refine below_set ?_ GE1198.out | refine below_set ?_ GE1206.out) | exact HB.out))))
                                          have n6_ := Aside0.mk (Kd.R_lower (Kd.R_new' (Kd.R_new' (Kd.R_new' (Kd.R_new' ho1 (Kd.R_lt (by (with_reducible repeat (first | apply Kd.R_alloc | apply Kd.R_drewN | apply Kd.R_drew)); exact HO_1162000.out))) (Kd.R_lt (by (with_reducible repeat (first | apply Kd.R_alloc | apply Kd.R_drewN | apply Kd.R_drew)); exact HO_1162001.out))) (Kd.R_lt (by (with_reducible repeat (first | apply Kd.R_alloc | apply Kd.R_drewN | apply Kd.R_drew)); exact HO1193.out))) (Kd.R_lt (by (with_reducible repeat (first | apply Kd.R_alloc | apply Kd.R_drewN | apply Kd.R_drew)); exact HO1196.out))) (below_size (by repeat (first | (with_reducible first | exact HB.out | apply below_alloc | apply pw_below_drewN | apply below_drew1 | refine below_set ?_ GE1161.out | refine below_set ?_ GE1198.out | refine below_set ?_ GE1206.out) | exact HB.out))))
                                          have n7_ := Aside0.mk (blk_below (g := gb1161) (o := .cells #[.slice Ao74 x1162000_3.length co74, .slice Ao75 x1162001_3.length co75] 24 (0, 0)) (by (with_reducible repeat (first | refine blk_drewN ?_ _ | refine blk_drew ?_ | refine blk_alloc ?_ _)); exact BK1161.out) hb)
                                          have n8_ := Aside0.mk (blk_below (g := gb1198) (o := .cells #[.slice Ao78 t1191.length co78, .slice Ao81 t1194.length co81] 24 (0, 0)) (by (with_reducible repeat (first | refine blk_drewN ?_ _ | refine blk_drew ?_ | refine blk_alloc ?_ _)); exact BK1198.out) hb)
                                          have n9_ := Aside0.mk (blk_below (g := gb1206) (o := .cells #[.slice none 0 0, .slice none 0 0] 24 (0, 0)) (by (with_reducible repeat (first | refine blk_drewN ?_ _ | refine blk_drew ?_ | refine blk_alloc ?_ _)); exact BK1206.out) hb)
                                          have n10_ := Aside0.mk (below_step (by repeat (first | (with_reducible first | exact HB.out | apply below_alloc | apply pw_below_drewN | apply below_drew1 | refine below_set ?_ GE1161.out | refine below_set ?_ GE1198.out | refine below_set ?_ GE1206.out) | exact HB.out)) hb)
                                          clear HO_1
                                          clear HO_1162000
                                          clear HO_1162001
                                          clear HO1193
                                          clear HO1196
                                          clear BK1161
                                          clear BK1198
                                          clear BK1206
                                          clear HB
                                          have HO_1 := n0_
                                          have HO_1162000 := n1_
                                          have HO_1162001 := n2_
                                          have HO1193 := n3_
                                          have HO1196 := n4_
                                          have HO1202 := n5_
                                          have HO1205 := n6_
                                          have BK1161 := n7_
                                          have BK1198 := n8_
                                          have BK1206 := n9_
                                          have HB := n10_
                                          clear n0_ n1_ n2_ n3_ n4_ n5_ n6_ n7_ n8_ n9_ n10_
                                          (try clear hb)
                                          (try clear hb2)
                                          (try clear hk)
                                          (try clear hi)
                                          (try clear ho0)
                                          (try clear ho1)
                                          refine hK.out _ _ ⟨(blk_cell BK1198.out 0).trans rfl, (blk_cell BK1198.out 1).trans rfl⟩ (fun hHeld => ?_)
                                          clear hK K
                                          refine norm_ (a' := ?_) ?_ ?_
                                          rotate_left
                                          · show Act.put _ (some 91) _ = _
                                            simp only [Act.put, List.setIfInBounds_toArray, List.set_cons_zero, List.set_cons_succ, i64_w, i32_w]
                                            rfl
                                          exact norm_ (by simp only [putAll, Act.put, List.setIfInBounds_toArray, List.set_cons_zero, List.set_cons_succ]) (hCont (v1201, v1204, gb1206) _ ⟨hHeld, (by (with_reducible repeat (first | apply Kd.R_alloc | apply Kd.R_drewN | apply Kd.R_drew)); exact Kd.R_mono HO1193.out (fun _ hk => ⟨hk.1.1.2.2, ⟨hk.1.2, ⟨hk.2, ⟨hk.1.1.1, hk.1.1.2.1⟩⟩⟩⟩)), (by (with_reducible repeat (first | apply Kd.R_alloc | apply Kd.R_drewN | apply Kd.R_drew)); exact Kd.R_mono HO1196.out (fun _ hk => ⟨hk.1.1.2.2, ⟨hk.1.2, ⟨hk.2, ⟨hk.1.1.1, hk.1.1.2.1⟩⟩⟩⟩)), (by (with_reducible repeat (first | apply Kd.R_alloc | apply Kd.R_drewN | apply Kd.R_drew)); exact Kd.R_mono HO1202.out (fun _ hk => ⟨hk.1.2, ⟨hk.2, ⟨hk.1.1.1.1, ⟨hk.1.1.1.2, hk.1.1.2⟩⟩⟩⟩)), (by (with_reducible repeat (first | apply Kd.R_alloc | apply Kd.R_drewN | apply Kd.R_drew)); exact Kd.R_mono HO1205.out (fun _ hk => ⟨hk.1.2, ⟨hk.2, ⟨hk.1.1.1.1, ⟨hk.1.1.1.2, hk.1.1.2⟩⟩⟩⟩)), (by (with_reducible repeat (first | apply Kd.N_alloc | apply Kd.N_drewN | apply Kd.N_drew)); exact Kd.N_mono HO_1.out (fun _ hk => ⟨hk.1.1.1.2.2.1, ⟨hk.1.1.1.2.2.2.1, ⟨hk.1.2, ⟨hk.2, ⟨hk.1.1.1.1, ⟨hk.1.1.1.2.1, ⟨hk.1.1.1.2.2.2.2.1, ⟨hk.1.1.1.2.2.2.2.2, hk.1.1.2⟩⟩⟩⟩⟩⟩⟩⟩)), (by (with_reducible repeat (first | apply Kd.R_alloc | apply Kd.R_drewN | apply Kd.R_drew)); exact Kd.R_mono HO_1162000.out (fun _ hk => ⟨hk.1.1.2.1, ⟨hk.1.1.2.2, ⟨hk.1.2, ⟨hk.2, hk.1.1.1⟩⟩⟩⟩)), (by (with_reducible repeat (first | apply Kd.R_alloc | apply Kd.R_drewN | apply Kd.R_drew)); exact Kd.R_mono HO_1162001.out (fun _ hk => ⟨hk.1.1.2.1, ⟨hk.1.1.2.2, ⟨hk.1.2, ⟨hk.2, hk.1.1.1⟩⟩⟩⟩)), (by (with_reducible repeat (first | refine blk_drewN ?_ _ | refine blk_drew ?_ | refine blk_alloc ?_ _)); exact BK1161.out), (by (with_reducible repeat (first | refine blk_drewN ?_ _ | refine blk_drew ?_ | refine blk_alloc ?_ _)); exact BK1198.out), (by (with_reducible repeat (first | refine blk_drewN ?_ _ | refine blk_drew ?_ | refine blk_alloc ?_ _)); exact BK1206.out), GW1206.out, GE1206.out, NB1161_1206.out, NB1206_1161.out, NB1198_1206.out, NB1206_1198.out, (by repeat (first | (with_reducible first | exact HB.out | apply below_alloc | apply pw_below_drewN | apply below_drew1 | refine below_set ?_ GE1161.out | refine below_set ?_ GE1198.out | refine below_set ?_ GE1206.out) | exact HB.out))⟩)
                                      · skip
                                        refine box_step ?hg (N := 17) ?hd (cs := #[.slice none 0 0, .slice none 0 0]) (t := 24) ?hr ?_; (case hd => rfl); (case hg => rfl); (case hr => first | (go_simp; done) | (go_simp; rfl))
                                        intro gb1206 hg w84 hbox hb
                                        have n0_ := Aside0.mk (Kd.N_below (Kd.N_elderB (by (with_reducible repeat (first | apply Kd.N_alloc | apply Kd.N_drewN | apply Kd.N_drew)); exact HO_1.out) gb1206 (Nat.le_of_eq hg.symm)) hb)
                                        have n1_ := Aside0.mk (Kd.R_below (by (with_reducible repeat (first | apply Kd.R_alloc | apply Kd.R_drewN | apply Kd.R_drew)); exact HO_1162000.out) hb)
                                        have n2_ := Aside0.mk (Kd.R_below (by (with_reducible repeat (first | apply Kd.R_alloc | apply Kd.R_drewN | apply Kd.R_drew)); exact HO_1162001.out) hb)
                                        have n3_ := Aside0.mk (Kd.R_below (by (with_reducible repeat (first | apply Kd.R_alloc | apply Kd.R_drewN | apply Kd.R_drew)); exact HO1193.out) hb)
                                        have n4_ := Aside0.mk (Kd.R_below (by (with_reducible repeat (first | apply Kd.R_alloc | apply Kd.R_drewN | apply Kd.R_drew)); exact HO1196.out) hb)
                                        have n5_ := Aside0.mk (blk_below (g := gb1161) (o := .cells #[.slice Ao74 x1162000_3.length co74, .slice Ao75 x1162001_3.length co75] 24 (0, 0)) (by (with_reducible repeat (first | refine blk_drewN ?_ _ | refine blk_drew ?_ | refine blk_alloc ?_ _)); exact BK1161.out) hb)
                                        have n6_ := Aside0.mk (blk_below (g := gb1198) (o := .cells #[.slice Ao78 t1191.length co78, .slice Ao81 t1194.length co81] 24 (0, 0)) (by (with_reducible repeat (first | refine blk_drewN ?_ _ | refine blk_drew ?_ | refine blk_alloc ?_ _)); exact BK1198.out) hb)
                                        have n7_ := Aside0.mk (below_step (by repeat (first | (with_reducible first | exact HB.out | apply below_alloc | apply pw_below_drewN | apply below_drew1 | refine below_set ?_ GE1161.out | refine below_set ?_ GE1198.out) | exact HB.out)) hb)
                                        have n8_ := Aside0.mk (hbox)
                                        have n9_ := Aside0.mk ((by rw [hg]; exact (below_size (by repeat (first | (with_reducible first | exact HB.out | apply below_alloc | apply pw_below_drewN | apply below_drew1 | refine below_set ?_ GE1161.out | refine below_set ?_ GE1198.out) | exact HB.out))) : w.heap.size ≤ gb1206))
                                        have n10_ := Aside0.mk ((by rw [hg]; exact (below_size (by repeat (first | (with_reducible first | exact HB.out | apply below_alloc | apply pw_below_drewN | apply below_drew1 | refine below_set ?_ GE1161.out | refine below_set ?_ GE1198.out) | exact HB.out))) : w.heap.size ≤ gb1206))
                                        have n11_ := Aside0.mk ((by rw [hg]; exact Nat.ne_of_lt (blk_lt (g := gb1161) (o := .cells #[.slice Ao74 x1162000_3.length co74, .slice Ao75 x1162001_3.length co75] 24 (0, 0)) (by (with_reducible repeat (first | refine blk_drewN ?_ _ | refine blk_drew ?_ | refine blk_alloc ?_ _)); exact BK1161.out)) : gb1161 ≠ gb1206))
                                        have n12_ := Aside0.mk ((by rw [hg]; exact Nat.ne_of_gt (blk_lt (g := gb1161) (o := .cells #[.slice Ao74 x1162000_3.length co74, .slice Ao75 x1162001_3.length co75] 24 (0, 0)) (by (with_reducible repeat (first | refine blk_drewN ?_ _ | refine blk_drew ?_ | refine blk_alloc ?_ _)); exact BK1161.out)) : gb1206 ≠ gb1161))
                                        have n13_ := Aside0.mk ((by rw [hg]; exact Nat.ne_of_lt (blk_lt (g := gb1198) (o := .cells #[.slice Ao78 t1191.length co78, .slice Ao81 t1194.length co81] 24 (0, 0)) (by (with_reducible repeat (first | refine blk_drewN ?_ _ | refine blk_drew ?_ | refine blk_alloc ?_ _)); exact BK1198.out)) : gb1198 ≠ gb1206))
                                        have n14_ := Aside0.mk ((by rw [hg]; exact Nat.ne_of_gt (blk_lt (g := gb1198) (o := .cells #[.slice Ao78 t1191.length co78, .slice Ao81 t1194.length co81] 24 (0, 0)) (by (with_reducible repeat (first | refine blk_drewN ?_ _ | refine blk_drew ?_ | refine blk_alloc ?_ _)); exact BK1198.out)) : gb1206 ≠ gb1198))
                                        clear HO_1
                                        clear HO_1162000
                                        clear HO_1162001
                                        clear HO1193
                                        clear HO1196
                                        clear BK1161
                                        clear BK1198
                                        clear HB
                                        have HO_1 := n0_
                                        have HO_1162000 := n1_
                                        have HO_1162001 := n2_
                                        have HO1193 := n3_
                                        have HO1196 := n4_
                                        have BK1161 := n5_
                                        have BK1198 := n6_
                                        have HB := n7_
                                        have BK1206 := n8_
                                        have GW1206 := n9_
                                        have GE1206 := n10_
                                        have NB1161_1206 := n11_
                                        have NB1206_1161 := n12_
                                        have NB1198_1206 := n13_
                                        have NB1206_1198 := n14_
                                        clear n0_ n1_ n2_ n3_ n4_ n5_ n6_ n7_ n8_ n9_ n10_ n11_ n12_ n13_ n14_
                                        clear hb hbox hg
                                        refine hK.out _ _ ⟨(blk_cell BK1198.out 0).trans rfl, (blk_cell BK1198.out 1).trans rfl⟩ (fun hHeld => ?_)
                                        clear hK K
                                        refine norm_ (a' := ?_) ?_ ?_
                                        rotate_left
                                        · show Act.put _ (some 17) _ = _
                                          simp only [Act.put, List.setIfInBounds_toArray, List.set_cons_zero, List.set_cons_succ, i64_w, i32_w]
                                          rfl
                                        refine one_ (i := 5) (N := some 90) #[true, true, true, true, true, true, false, true, false] rfl rfl (one_of HT_.out (by kernel_rfl)) (by decide) (fun K hK => ?_)
                                        refine goes_ Try.func27 (by kernel_rfl) rfl #[.int .i64 a4, .int .i64 (wrap64 ((l3.length : Int) + 9))] (by rfl) rfl rfl (by (try simp only [List.map_toArray, List.map_cons, List.map_nil]); first | done | rfl | (simp only [List.length_drop, List.length_take]; rfl)) ?_
                                        with_reducible refine (customsmade_Within.calls a4 (wrap64 ((l3.length : Int) + 9)) t1199 _ A55.out).mono ?_
                                        rintro e w' ⟨rfl, ⟨nd, rfl⟩⟩
                                        refine ⟨_, rfl, ?_⟩
                                        refine hK.out _ _ ⟨(blk_cell BK1198.out 0).trans rfl, (blk_cell BK1198.out 1).trans rfl⟩ (fun hHeld => ?_)
                                        clear hK K
                                        refine norm_ (a' := ?_) ?_ ?_
                                        rotate_left
                                        · show Act.put _ (some 90) _ = _
                                          simp only [Act.put, List.setIfInBounds_toArray, List.set_cons_zero, List.set_cons_succ, i64_w, i32_w]
                                          rfl
                                        refine one_ (i := 6) (N := some 91) #[true, true, true, true, true, true, true, true, false] rfl rfl (one_of HT_.out (by kernel_rfl)) (by decide) (fun K hK => ?_)
                                        refine goes_ Try.func25 (by kernel_rfl) rfl #[.agg #[.slice Ao78 t1191.length co78, .slice Ao81 t1194.length co81], .int .i64 t1199] (by rfl) rfl rfl (by (try simp only [List.map_toArray, List.map_cons, List.map_nil]); first | done | rfl | (simp only [List.length_drop, List.length_take]; rfl)) ?_
                                        with_reducible refine (disk_Crash.calls _ _ t1191 _ _ t1194 t1199 t1200 t1203 _ ?side1 ?side2 ?side3 ?side4 A56.out).mono ?_
                                        (case side1 => repeat (first | exact (Kd.R_reads' HO1193.out).2.2 | (with_reducible refine Kd.C_alloc ?_ _) | (with_reducible refine Kd.C_drewN ?_ _) | (with_reducible refine Kd.C_drew ?_)))
                                        (case side2 => exact (Kd.R_reads' HO1193.out).2.1)
                                        (case side3 => repeat (first | exact (Kd.R_reads' HO1196.out).2.2 | (with_reducible refine Kd.C_alloc ?_ _) | (with_reducible refine Kd.C_drewN ?_ _) | (with_reducible refine Kd.C_drew ?_)))
                                        (case side4 => exact (Kd.R_reads' HO1196.out).2.1)
                                        rintro e w85 ⟨v1201, v1204, rfl, ho0, ho1, hb⟩
                                        refine ⟨_, rfl, ?_⟩
                                        have n0_ := Aside0.mk (Kd.N_mono (Kd.N_told (Kd.N_told (Kd.N_old (by (with_reducible repeat (first | apply Kd.N_alloc | apply Kd.N_drewN | apply Kd.N_drew)); exact HO_1.out) hb) (Kd.R_base ho0)) (Kd.R_base ho1)) (fun _ h_ => h_.1))
                                        have n1_ := Aside0.mk (Kd.R_mono (Kd.R_told (Kd.R_told (Kd.R_old (by (with_reducible repeat (first | apply Kd.R_alloc | apply Kd.R_drewN | apply Kd.R_drew)); exact HO_1162000.out) hb) (Kd.R_base ho0)) (Kd.R_base ho1)) (fun _ h_ => h_.1))
                                        have n2_ := Aside0.mk (Kd.R_mono (Kd.R_told (Kd.R_told (Kd.R_old (by (with_reducible repeat (first | apply Kd.R_alloc | apply Kd.R_drewN | apply Kd.R_drew)); exact HO_1162001.out) hb) (Kd.R_base ho0)) (Kd.R_base ho1)) (fun _ h_ => h_.1))
                                        have n3_ := Aside0.mk (Kd.R_mono (Kd.R_told (Kd.R_told (Kd.R_old (by (with_reducible repeat (first | apply Kd.R_alloc | apply Kd.R_drewN | apply Kd.R_drew)); exact HO1193.out) hb) (Kd.R_base ho0)) (Kd.R_base ho1)) (fun _ h_ => h_.1))
                                        have n4_ := Aside0.mk (Kd.R_mono (Kd.R_told (Kd.R_told (Kd.R_old (by (with_reducible repeat (first | apply Kd.R_alloc | apply Kd.R_drewN | apply Kd.R_drew)); exact HO1196.out) hb) (Kd.R_base ho0)) (Kd.R_base ho1)) (fun _ h_ => h_.1))
                                        have n5_ := Aside0.mk (Kd.R_lower (Kd.R_new' (Kd.R_new' (Kd.R_new' (Kd.R_new' ho0 (Kd.R_lt (by (with_reducible repeat (first | apply Kd.R_alloc | apply Kd.R_drewN | apply Kd.R_drew)); exact HO_1162000.out))) (Kd.R_lt (by (with_reducible repeat (first | apply Kd.R_alloc | apply Kd.R_drewN | apply Kd.R_drew)); exact HO_1162001.out))) (Kd.R_lt (by (with_reducible repeat (first | apply Kd.R_alloc | apply Kd.R_drewN | apply Kd.R_drew)); exact HO1193.out))) (Kd.R_lt (by (with_reducible repeat (first | apply Kd.R_alloc | apply Kd.R_drewN | apply Kd.R_drew)); exact HO1196.out))) (below_size (by repeat (first | (with_reducible first | exact HB.out | apply below_alloc | apply pw_below_drewN | apply below_drew1 | refine below_set ?_ GE1161.out | refine below_set ?_ GE1198.out | refine below_set ?_ GE1206.out) | exact HB.out))))
                                        have n6_ := Aside0.mk (Kd.R_lower (Kd.R_new' (Kd.R_new' (Kd.R_new' (Kd.R_new' ho1 (Kd.R_lt (by (with_reducible repeat (first | apply Kd.R_alloc | apply Kd.R_drewN | apply Kd.R_drew)); exact HO_1162000.out))) (Kd.R_lt (by (with_reducible repeat (first | apply Kd.R_alloc | apply Kd.R_drewN | apply Kd.R_drew)); exact HO_1162001.out))) (Kd.R_lt (by (with_reducible repeat (first | apply Kd.R_alloc | apply Kd.R_drewN | apply Kd.R_drew)); exact HO1193.out))) (Kd.R_lt (by (with_reducible repeat (first | apply Kd.R_alloc | apply Kd.R_drewN | apply Kd.R_drew)); exact HO1196.out))) (below_size (by repeat (first | (with_reducible first | exact HB.out | apply below_alloc | apply pw_below_drewN | apply below_drew1 | refine below_set ?_ GE1161.out | refine below_set ?_ GE1198.out | refine below_set ?_ GE1206.out) | exact HB.out))))
                                        have n7_ := Aside0.mk (blk_below (g := gb1161) (o := .cells #[.slice Ao74 x1162000_3.length co74, .slice Ao75 x1162001_3.length co75] 24 (0, 0)) (by (with_reducible repeat (first | refine blk_drewN ?_ _ | refine blk_drew ?_ | refine blk_alloc ?_ _)); exact BK1161.out) hb)
                                        have n8_ := Aside0.mk (blk_below (g := gb1198) (o := .cells #[.slice Ao78 t1191.length co78, .slice Ao81 t1194.length co81] 24 (0, 0)) (by (with_reducible repeat (first | refine blk_drewN ?_ _ | refine blk_drew ?_ | refine blk_alloc ?_ _)); exact BK1198.out) hb)
                                        have n9_ := Aside0.mk (blk_below (g := gb1206) (o := .cells #[.slice none 0 0, .slice none 0 0] 24 (0, 0)) (by (with_reducible repeat (first | refine blk_drewN ?_ _ | refine blk_drew ?_ | refine blk_alloc ?_ _)); exact BK1206.out) hb)
                                        have n10_ := Aside0.mk (below_step (by repeat (first | (with_reducible first | exact HB.out | apply below_alloc | apply pw_below_drewN | apply below_drew1 | refine below_set ?_ GE1161.out | refine below_set ?_ GE1198.out | refine below_set ?_ GE1206.out) | exact HB.out)) hb)
                                        clear HO_1
                                        clear HO_1162000
                                        clear HO_1162001
                                        clear HO1193
                                        clear HO1196
                                        clear BK1161
                                        clear BK1198
                                        clear BK1206
                                        clear HB
                                        have HO_1 := n0_
                                        have HO_1162000 := n1_
                                        have HO_1162001 := n2_
                                        have HO1193 := n3_
                                        have HO1196 := n4_
                                        have HO1202 := n5_
                                        have HO1205 := n6_
                                        have BK1161 := n7_
                                        have BK1198 := n8_
                                        have BK1206 := n9_
                                        have HB := n10_
                                        clear n0_ n1_ n2_ n3_ n4_ n5_ n6_ n7_ n8_ n9_ n10_
                                        (try clear hb)
                                        (try clear hb2)
                                        (try clear hk)
                                        (try clear hi)
                                        (try clear ho0)
                                        (try clear ho1)
                                        refine hK.out _ _ ⟨(blk_cell BK1198.out 0).trans rfl, (blk_cell BK1198.out 1).trans rfl⟩ (fun hHeld => ?_)
                                        clear hK K
                                        refine norm_ (a' := ?_) ?_ ?_
                                        rotate_left
                                        · show Act.put _ (some 91) _ = _
                                          simp only [Act.put, List.setIfInBounds_toArray, List.set_cons_zero, List.set_cons_succ, i64_w, i32_w]
                                          rfl
                                        exact norm_ (by simp only [putAll, Act.put, List.setIfInBounds_toArray, List.set_cons_zero, List.set_cons_succ]) (hCont (v1201, v1204, gb1206) _ ⟨hHeld, (by (with_reducible repeat (first | apply Kd.R_alloc | apply Kd.R_drewN | apply Kd.R_drew)); exact Kd.R_mono HO1193.out (fun _ hk => ⟨hk.1.1.2.2, ⟨hk.1.2, ⟨hk.2, ⟨hk.1.1.1, hk.1.1.2.1⟩⟩⟩⟩)), (by (with_reducible repeat (first | apply Kd.R_alloc | apply Kd.R_drewN | apply Kd.R_drew)); exact Kd.R_mono HO1196.out (fun _ hk => ⟨hk.1.1.2.2, ⟨hk.1.2, ⟨hk.2, ⟨hk.1.1.1, hk.1.1.2.1⟩⟩⟩⟩)), (by (with_reducible repeat (first | apply Kd.R_alloc | apply Kd.R_drewN | apply Kd.R_drew)); exact Kd.R_mono HO1202.out (fun _ hk => ⟨hk.1.2, ⟨hk.2, ⟨hk.1.1.1.1, ⟨hk.1.1.1.2, hk.1.1.2⟩⟩⟩⟩)), (by (with_reducible repeat (first | apply Kd.R_alloc | apply Kd.R_drewN | apply Kd.R_drew)); exact Kd.R_mono HO1205.out (fun _ hk => ⟨hk.1.2, ⟨hk.2, ⟨hk.1.1.1.1, ⟨hk.1.1.1.2, hk.1.1.2⟩⟩⟩⟩)), (by (with_reducible repeat (first | apply Kd.N_alloc | apply Kd.N_drewN | apply Kd.N_drew)); exact Kd.N_mono HO_1.out (fun _ hk => ⟨hk.1.1.1.2.2.1, ⟨hk.1.1.1.2.2.2.1, ⟨hk.1.2, ⟨hk.2, ⟨hk.1.1.1.1, ⟨hk.1.1.1.2.1, ⟨hk.1.1.1.2.2.2.2.1, ⟨hk.1.1.1.2.2.2.2.2, hk.1.1.2⟩⟩⟩⟩⟩⟩⟩⟩)), (by (with_reducible repeat (first | apply Kd.R_alloc | apply Kd.R_drewN | apply Kd.R_drew)); exact Kd.R_mono HO_1162000.out (fun _ hk => ⟨hk.1.1.2.1, ⟨hk.1.1.2.2, ⟨hk.1.2, ⟨hk.2, hk.1.1.1⟩⟩⟩⟩)), (by (with_reducible repeat (first | apply Kd.R_alloc | apply Kd.R_drewN | apply Kd.R_drew)); exact Kd.R_mono HO_1162001.out (fun _ hk => ⟨hk.1.1.2.1, ⟨hk.1.1.2.2, ⟨hk.1.2, ⟨hk.2, hk.1.1.1⟩⟩⟩⟩)), (by (with_reducible repeat (first | refine blk_drewN ?_ _ | refine blk_drew ?_ | refine blk_alloc ?_ _)); exact BK1161.out), (by (with_reducible repeat (first | refine blk_drewN ?_ _ | refine blk_drew ?_ | refine blk_alloc ?_ _)); exact BK1198.out), (by (with_reducible repeat (first | refine blk_drewN ?_ _ | refine blk_drew ?_ | refine blk_alloc ?_ _)); exact BK1206.out), GW1206.out, GE1206.out, NB1161_1206.out, NB1206_1161.out, NB1198_1206.out, NB1206_1198.out, (by repeat (first | (with_reducible first | exact HB.out | apply below_alloc | apply pw_below_drewN | apply below_drew1 | refine below_set ?_ GE1161.out | refine below_set ?_ GE1198.out | refine below_set ?_ GE1206.out) | exact HB.out))⟩)
                                    rintro ⟨v1201, v1204, gb1206⟩ w86 ⟨hS_, h0_, h1_, h2_, h3_, h4_, h5_, h6_, h7_, h8_, h9_, h10_, h11_, h12_, h13_, h14_, h15_, h16_⟩
                                    have n0_ : Aside0 (Kd.R (Kd.int .u8) 5 w86 w.heap.size (fun k_ => some k_ ≠ (.slice Ao81 t1194.length co81 : Value).ownBlock ∧ some k_ ≠ (v1201 : Value).ownBlock ∧ some k_ ≠ (v1204 : Value).ownBlock ∧ some k_ ≠ (.slice Ao74 x1162000_3.length co74 : Value).ownBlock ∧ some k_ ≠ (.slice Ao75 x1162001_3.length co75 : Value).ownBlock) (.slice Ao78 t1191.length co78) t1191) := ⟨h0_⟩
                                    have n1_ : Aside0 (Kd.R (Kd.int .u8) 5 w86 w.heap.size (fun k_ => some k_ ≠ (.slice Ao78 t1191.length co78 : Value).ownBlock ∧ some k_ ≠ (v1201 : Value).ownBlock ∧ some k_ ≠ (v1204 : Value).ownBlock ∧ some k_ ≠ (.slice Ao74 x1162000_3.length co74 : Value).ownBlock ∧ some k_ ≠ (.slice Ao75 x1162001_3.length co75 : Value).ownBlock) (.slice Ao81 t1194.length co81) t1194) := ⟨h1_⟩
                                    have n2_ : Aside0 (Kd.R (Kd.int .u8) 5 w86 w.heap.size (fun k_ => some k_ ≠ (.slice Ao78 t1191.length co78 : Value).ownBlock ∧ some k_ ≠ (.slice Ao81 t1194.length co81 : Value).ownBlock ∧ some k_ ≠ (v1204 : Value).ownBlock ∧ some k_ ≠ (.slice Ao74 x1162000_3.length co74 : Value).ownBlock ∧ some k_ ≠ (.slice Ao75 x1162001_3.length co75 : Value).ownBlock) v1201 t1200) := ⟨h2_⟩
                                    have n3_ : Aside0 (Kd.R (Kd.int .u8) 5 w86 w.heap.size (fun k_ => some k_ ≠ (.slice Ao78 t1191.length co78 : Value).ownBlock ∧ some k_ ≠ (.slice Ao81 t1194.length co81 : Value).ownBlock ∧ some k_ ≠ (v1201 : Value).ownBlock ∧ some k_ ≠ (.slice Ao74 x1162000_3.length co74 : Value).ownBlock ∧ some k_ ≠ (.slice Ao75 x1162001_3.length co75 : Value).ownBlock) v1204 t1203) := ⟨h3_⟩
                                    have n4_ : Aside0 (Kd.N (Kd.slice 5 (Kd.int .u8)) 22 w86 w.heap.size (fun k_ => some k_ ≠ (.slice Ao78 t1191.length co78 : Value).ownBlock ∧ some k_ ≠ (.slice Ao81 t1194.length co81 : Value).ownBlock ∧ some k_ ≠ (v1201 : Value).ownBlock ∧ some k_ ≠ (v1204 : Value).ownBlock ∧ some k_ ≠ (.slice Ao74 x1162000_3.length co74 : Value).ownBlock ∧ some k_ ≠ (.slice Ao75 x1162001_3.length co75 : Value).ownBlock ∧ k_ ≠ gb1161 ∧ k_ ≠ gb1198 ∧ k_ ≠ gb1206) (.slice Ao72 t1157.length co72) t1157) := ⟨h4_⟩
                                    have n5_ : Aside0 (Kd.R (Kd.int .u8) 5 w86 w.heap.size (fun k_ => some k_ ≠ (.slice Ao78 t1191.length co78 : Value).ownBlock ∧ some k_ ≠ (.slice Ao81 t1194.length co81 : Value).ownBlock ∧ some k_ ≠ (v1201 : Value).ownBlock ∧ some k_ ≠ (v1204 : Value).ownBlock ∧ some k_ ≠ (.slice Ao75 x1162001_3.length co75 : Value).ownBlock) (.slice Ao74 x1162000_3.length co74) x1162000_3) := ⟨h5_⟩
                                    have n6_ : Aside0 (Kd.R (Kd.int .u8) 5 w86 w.heap.size (fun k_ => some k_ ≠ (.slice Ao78 t1191.length co78 : Value).ownBlock ∧ some k_ ≠ (.slice Ao81 t1194.length co81 : Value).ownBlock ∧ some k_ ≠ (v1201 : Value).ownBlock ∧ some k_ ≠ (v1204 : Value).ownBlock ∧ some k_ ≠ (.slice Ao74 x1162000_3.length co74 : Value).ownBlock) (.slice Ao75 x1162001_3.length co75) x1162001_3) := ⟨h6_⟩
                                    have n7_ : Aside0 (w86.heap[gb1161]? = some (.cells #[.slice Ao74 x1162000_3.length co74, .slice Ao75 x1162001_3.length co75] 24 (0, 0))) := ⟨h7_⟩
                                    have n8_ : Aside0 (w86.heap[gb1198]? = some (.cells #[.slice Ao78 t1191.length co78, .slice Ao81 t1194.length co81] 24 (0, 0))) := ⟨h8_⟩
                                    have n9_ : Aside0 (w86.heap[gb1206]? = some (.cells #[.slice none 0 0, .slice none 0 0] 24 (0, 0))) := ⟨h9_⟩
                                    have n10_ : Aside0 (w.heap.size ≤ gb1206) := ⟨h10_⟩
                                    have n11_ : Aside0 (w.heap.size ≤ gb1206) := ⟨h11_⟩
                                    have n12_ : Aside0 (gb1161 ≠ gb1206) := ⟨h12_⟩
                                    have n13_ : Aside0 (gb1206 ≠ gb1161) := ⟨h13_⟩
                                    have n14_ : Aside0 (gb1198 ≠ gb1206) := ⟨h14_⟩
                                    have n15_ : Aside0 (gb1206 ≠ gb1198) := ⟨h15_⟩
                                    have n16_ : Aside0 (Below w.heap.size w w86) := ⟨h16_⟩
                                    clear HO_1
                                    clear HO_1162000
                                    clear HO_1162001
                                    clear HO1193
                                    clear HO1196
                                    clear BK1161
                                    clear BK1198
                                    clear HB
                                    clear h0_ h1_ h2_ h3_ h4_ h5_ h6_ h7_ h8_ h9_ h10_ h11_ h12_ h13_ h14_ h15_ h16_
                                    have HO1193 := n0_
                                    have HO1196 := n1_
                                    have HO1202 := n2_
                                    have HO1205 := n3_
                                    have HO_1 := n4_
                                    have HO_1162000 := n5_
                                    have HO_1162001 := n6_
                                    have BK1161 := n7_
                                    have BK1198 := n8_
                                    have BK1206 := n9_
                                    have GW1206 := n10_
                                    have GE1206 := n11_
                                    have NB1161_1206 := n12_
                                    have NB1206_1161 := n13_
                                    have NB1198_1206 := n14_
                                    have NB1206_1198 := n15_
                                    have HB := n16_
                                    clear n0_ n1_ n2_ n3_ n4_ n5_ n6_ n7_ n8_ n9_ n10_ n11_ n12_ n13_ n14_ n15_ n16_
                                    have hHeld : w86.cell? ⟨gb1198, 0, none⟩ = some (.slice Ao78 t1191.length co78) ∧ w86.cell? ⟨gb1198, 1, none⟩ = some (.slice Ao81 t1194.length co81) := hS_
                                    obtain ⟨Ao87, co87, eo87⟩ := Kd.R_slice HO1202.out
                                    (first | subst eo87 | (injection eo87 with f1_ f2_ f3_; have f4_ := f1_.symm; have f5_ := f3_.symm; clear f1_ f2_ f3_; subst f4_; subst f5_))
                                    obtain ⟨Ao89, co89, eo89⟩ := Kd.R_slice HO1205.out
                                    (first | subst eo89 | (injection eo89 with f1_ f2_ f3_; have f4_ := f1_.symm; have f5_ := f3_.symm; clear f1_ f2_ f3_; subst f4_; subst f5_))
                                    refine norm_ (a' := ?_) ?_ ?_
                                    rotate_left
                                    · simp only [putAll, Act.put, List.setIfInBounds_toArray, List.set_cons_zero, List.set_cons_succ]
                                      rfl
                                    refine one_ (i := 8) (N := none) #[true, true, true, true, true, true, true, true, true] rfl rfl (one_of HT_.out (by kernel_rfl)) (by decide) (fun K hK => ?_)
                                    have hs88 : w86.cell? ⟨gb1206, 0, none⟩ = some (.slice none 0 0) := (blk_cell BK1206.out 0).trans rfl
                                    have hfs88 := blk_frozen BK1206.out 0
                                    have hns88_0 := NB1161_1206.out
                                    have hns88_1 := NB1198_1206.out
                                    have hms88_0 := NB1206_1161.out
                                    have hms88_1 := NB1206_1198.out
                                    have hs90 : w86.cell? ⟨gb1206, 1, none⟩ = some (.slice none 0 0) := (blk_cell BK1206.out 1).trans rfl
                                    have hfs90 := blk_frozen BK1206.out 1
                                    have hns90_0 := NB1161_1206.out
                                    have hns90_1 := NB1198_1206.out
                                    have hms90_0 := NB1206_1161.out
                                    have hms90_1 := NB1206_1198.out
                                    refine skip_ (w1 := ?_) (by rfl) rfl ?_ ?_
                                    rotate_left
                                    · go_simp
                                      rfl
                                    refine hK.out _ _ ⟨((cell_far (p := ⟨gb1206, _, none⟩) NB1198_1206.out _).trans (((cell_far (p := ⟨gb1206, _, none⟩) NB1198_1206.out _).trans (hHeld.1)))), ((cell_far (p := ⟨gb1206, _, none⟩) NB1198_1206.out _).trans (((cell_far (p := ⟨gb1206, _, none⟩) NB1198_1206.out _).trans (hHeld.2))))⟩ (fun hHeld => ?_)
                                    clear hK K
                                    refine done_ (done_of HT_.out (by kernel_rfl)) ?_
                                    have hnb91 := NB1206_1161.out
                                    have hnc91 := NB1161_1206.out
                                    have hnb92 := NB1206_1198.out
                                    have hnc92 := NB1198_1206.out
                                    have hcz93_0 : w86.cell? ⟨gb1206, 0, none⟩ = some (.slice none 0 0) := (blk_cell BK1206.out 0).trans rfl
                                    have hcz93_1 : w86.cell? ⟨gb1206, 1, none⟩ = some (.slice none 0 0) := (blk_cell BK1206.out 1).trans rfl
                                    have hfz93_0 := blk_frozen BK1206.out 0
                                    have hfz93_1 := blk_frozen BK1206.out 1
                                    try go_wp2_with (first | ((with_reducible refine gate_callee (f := 61) rfl ?_); refine goesL_ (some 94) rfl rfl Try.func61 (by kernel_rfl) rfl #[.agg #[.slice Ao87 t1200.length co87, .slice Ao89 t1203.length co89]] rfl (by (try simp only [List.map_toArray, List.map_cons, List.map_nil]); first | done | rfl | (simp only [List.length_drop, List.length_take]; rfl)) ?_; (with_reducible refine (journal_Open.calls k3 _ _ t1200 _ _ t1203 t1207 t1210 t1213 true t1217 _ ?side1 ?side2 ?side3 ?side4 A57.out).mono ?_); (case side1 => refine (Kd.R_reads' (e := 5) (base := w.heap.size) (ok := fun k_ => (some k_ ≠ (.slice Ao78 t1191.length co78 : Value).ownBlock ∧ (some k_ ≠ (.slice Ao81 t1194.length co81 : Value).ownBlock ∧ (some k_ ≠ (.slice Ao89 t1203.length co89 : Value).ownBlock ∧ (some k_ ≠ (.slice Ao74 x1162000_3.length co74 : Value).ownBlock ∧ some k_ ≠ (.slice Ao75 x1162001_3.length co75 : Value).ownBlock))))) (n := t1200.length) (c := co87) ?_).2.2; exact (by (with_reducible repeat (first | apply Kd.R_alloc | apply Kd.R_drewN | apply Kd.R_drew)); exact (Kd.R_mono (Kd.R_far (p := ⟨gb1206, 1, none⟩) (Kd.R_far (p := ⟨gb1206, 0, none⟩) (Kd.R_types HO1202.out BK1206.out (by decide)) (fun _ hk => hk.2) (.slice Ao87 t1200.length co87)) (fun _ hk => hk.2) (.slice Ao89 t1203.length co89)) (fun _ h_ => h_.1)))); (case side2 => exact (Kd.R_reads' HO1202.out).2.1); (case side3 => refine (Kd.R_reads' (e := 5) (base := w.heap.size) (ok := fun k_ => (some k_ ≠ (.slice Ao78 t1191.length co78 : Value).ownBlock ∧ (some k_ ≠ (.slice Ao81 t1194.length co81 : Value).ownBlock ∧ (some k_ ≠ (.slice Ao87 t1200.length co87 : Value).ownBlock ∧ (some k_ ≠ (.slice Ao74 x1162000_3.length co74 : Value).ownBlock ∧ some k_ ≠ (.slice Ao75 x1162001_3.length co75 : Value).ownBlock))))) (n := t1203.length) (c := co89) ?_).2.2; exact (by (with_reducible repeat (first | apply Kd.R_alloc | apply Kd.R_drewN | apply Kd.R_drew)); exact (Kd.R_mono (Kd.R_far (p := ⟨gb1206, 1, none⟩) (Kd.R_far (p := ⟨gb1206, 0, none⟩) (Kd.R_types HO1205.out BK1206.out (by decide)) (fun _ hk => hk.2) (.slice Ao87 t1200.length co87)) (fun _ hk => hk.2) (.slice Ao89 t1203.length co89)) (fun _ h_ => h_.1)))); (case side4 => exact (Kd.R_reads' HO1205.out).2.1); rintro e w94 ⟨v1208, v1211, v1214, v1218, rfl, ho0, ho1, ho2, ho3, hb⟩; refine ⟨_, rfl, ?_⟩; have n0_ := Aside0.mk (Kd.N_mono (Kd.N_told (Kd.N_told (Kd.N_told (Kd.N_old (by (with_reducible repeat (first | apply Kd.N_alloc | apply Kd.N_drewN | apply Kd.N_drew)); exact (Kd.N_mono (Kd.N_far (p := ⟨gb1206, 1, none⟩) (Kd.N_far (p := ⟨gb1206, 0, none⟩) (Kd.N_mono HO_1.out (fun k_ hk => (⟨hk, hk.2.2.2.2.2.2.2.2⟩ : _ ∧ k_ ≠ gb1206))) (fun _ hk => hk.2) (.slice Ao87 t1200.length co87)) (fun _ hk => hk.2) (.slice Ao89 t1203.length co89)) (fun _ h_ => h_.1))) hb) (Kd.R_base ho0)) (Kd.R_base ho1)) (Kd.N_base ho3)) (fun _ h_ => h_.1)); have n1_ := Aside0.mk (Kd.R_mono (Kd.R_told (Kd.R_told (Kd.R_old (by (with_reducible repeat (first | apply Kd.R_alloc | apply Kd.R_drewN | apply Kd.R_drew)); exact (Kd.R_mono (Kd.R_far (p := ⟨gb1206, 1, none⟩) (Kd.R_far (p := ⟨gb1206, 0, none⟩) (Kd.R_types HO_1162000.out BK1206.out (by decide)) (fun _ hk => hk.2) (.slice Ao87 t1200.length co87)) (fun _ hk => hk.2) (.slice Ao89 t1203.length co89)) (fun _ h_ => h_.1))) hb) (Kd.R_base ho0)) (Kd.R_base ho1)) (fun _ h_ => h_.1)); have n2_ := Aside0.mk (Kd.R_mono (Kd.R_told (Kd.R_told (Kd.R_old (by (with_reducible repeat (first | apply Kd.R_alloc | apply Kd.R_drewN | apply Kd.R_drew)); exact (Kd.R_mono (Kd.R_far (p := ⟨gb1206, 1, none⟩) (Kd.R_far (p := ⟨gb1206, 0, none⟩) (Kd.R_types HO_1162001.out BK1206.out (by decide)) (fun _ hk => hk.2) (.slice Ao87 t1200.length co87)) (fun _ hk => hk.2) (.slice Ao89 t1203.length co89)) (fun _ h_ => h_.1))) hb) (Kd.R_base ho0)) (Kd.R_base ho1)) (fun _ h_ => h_.1)); have n3_ := Aside0.mk (Kd.R_mono (Kd.R_told (Kd.R_told (Kd.R_old (by (with_reducible repeat (first | apply Kd.R_alloc | apply Kd.R_drewN | apply Kd.R_drew)); exact (Kd.R_mono (Kd.R_far (p := ⟨gb1206, 1, none⟩) (Kd.R_far (p := ⟨gb1206, 0, none⟩) (Kd.R_types HO1193.out BK1206.out (by decide)) (fun _ hk => hk.2) (.slice Ao87 t1200.length co87)) (fun _ hk => hk.2) (.slice Ao89 t1203.length co89)) (fun _ h_ => h_.1))) hb) (Kd.R_base ho0)) (Kd.R_base ho1)) (fun _ h_ => h_.1)); have n4_ := Aside0.mk (Kd.R_mono (Kd.R_told (Kd.R_told (Kd.R_old (by (with_reducible repeat (first | apply Kd.R_alloc | apply Kd.R_drewN | apply Kd.R_drew)); exact (Kd.R_mono (Kd.R_far (p := ⟨gb1206, 1, none⟩) (Kd.R_far (p := ⟨gb1206, 0, none⟩) (Kd.R_types HO1196.out BK1206.out (by decide)) (fun _ hk => hk.2) (.slice Ao87 t1200.length co87)) (fun _ hk => hk.2) (.slice Ao89 t1203.length co89)) (fun _ h_ => h_.1))) hb) (Kd.R_base ho0)) (Kd.R_base ho1)) (fun _ h_ => h_.1)); have n5_ := Aside0.mk (Kd.R_mono (Kd.R_told (Kd.R_told (Kd.R_old (by (with_reducible repeat (first | apply Kd.R_alloc | apply Kd.R_drewN | apply Kd.R_drew)); exact (Kd.R_mono (Kd.R_far (p := ⟨gb1206, 1, none⟩) (Kd.R_far (p := ⟨gb1206, 0, none⟩) (Kd.R_types HO1202.out BK1206.out (by decide)) (fun _ hk => hk.2) (.slice Ao87 t1200.length co87)) (fun _ hk => hk.2) (.slice Ao89 t1203.length co89)) (fun _ h_ => h_.1))) hb) (Kd.R_base ho0)) (Kd.R_base ho1)) (fun _ h_ => h_.1)); have n6_ := Aside0.mk (Kd.R_mono (Kd.R_told (Kd.R_told (Kd.R_old (by (with_reducible repeat (first | apply Kd.R_alloc | apply Kd.R_drewN | apply Kd.R_drew)); exact (Kd.R_mono (Kd.R_far (p := ⟨gb1206, 1, none⟩) (Kd.R_far (p := ⟨gb1206, 0, none⟩) (Kd.R_types HO1205.out BK1206.out (by decide)) (fun _ hk => hk.2) (.slice Ao87 t1200.length co87)) (fun _ hk => hk.2) (.slice Ao89 t1203.length co89)) (fun _ h_ => h_.1))) hb) (Kd.R_base ho0)) (Kd.R_base ho1)) (fun _ h_ => h_.1)); have n7_ := Aside0.mk (Kd.R_lower (Kd.R_new' (Kd.R_new' (Kd.R_new' (Kd.R_new' (Kd.R_new' (Kd.R_new' (Kd.R_mono (ok' := fun k_ => some k_ ≠ (v1211 : Value).ownBlock) ho0 (fun _ hk_ => hk_.2)) (Kd.R_lt (by (with_reducible repeat (first | apply Kd.R_alloc | apply Kd.R_drewN | apply Kd.R_drew)); exact (Kd.R_mono (Kd.R_far (p := ⟨gb1206, 1, none⟩) (Kd.R_far (p := ⟨gb1206, 0, none⟩) (Kd.R_types HO_1162000.out BK1206.out (by decide)) (fun _ hk => hk.2) (.slice Ao87 t1200.length co87)) (fun _ hk => hk.2) (.slice Ao89 t1203.length co89)) (fun _ h_ => h_.1))))) (Kd.R_lt (by (with_reducible repeat (first | apply Kd.R_alloc | apply Kd.R_drewN | apply Kd.R_drew)); exact (Kd.R_mono (Kd.R_far (p := ⟨gb1206, 1, none⟩) (Kd.R_far (p := ⟨gb1206, 0, none⟩) (Kd.R_types HO_1162001.out BK1206.out (by decide)) (fun _ hk => hk.2) (.slice Ao87 t1200.length co87)) (fun _ hk => hk.2) (.slice Ao89 t1203.length co89)) (fun _ h_ => h_.1))))) (Kd.R_lt (by (with_reducible repeat (first | apply Kd.R_alloc | apply Kd.R_drewN | apply Kd.R_drew)); exact (Kd.R_mono (Kd.R_far (p := ⟨gb1206, 1, none⟩) (Kd.R_far (p := ⟨gb1206, 0, none⟩) (Kd.R_types HO1193.out BK1206.out (by decide)) (fun _ hk => hk.2) (.slice Ao87 t1200.length co87)) (fun _ hk => hk.2) (.slice Ao89 t1203.length co89)) (fun _ h_ => h_.1))))) (Kd.R_lt (by (with_reducible repeat (first | apply Kd.R_alloc | apply Kd.R_drewN | apply Kd.R_drew)); exact (Kd.R_mono (Kd.R_far (p := ⟨gb1206, 1, none⟩) (Kd.R_far (p := ⟨gb1206, 0, none⟩) (Kd.R_types HO1196.out BK1206.out (by decide)) (fun _ hk => hk.2) (.slice Ao87 t1200.length co87)) (fun _ hk => hk.2) (.slice Ao89 t1203.length co89)) (fun _ h_ => h_.1))))) (Kd.R_lt (by (with_reducible repeat (first | apply Kd.R_alloc | apply Kd.R_drewN | apply Kd.R_drew)); exact (Kd.R_mono (Kd.R_far (p := ⟨gb1206, 1, none⟩) (Kd.R_far (p := ⟨gb1206, 0, none⟩) (Kd.R_types HO1202.out BK1206.out (by decide)) (fun _ hk => hk.2) (.slice Ao87 t1200.length co87)) (fun _ hk => hk.2) (.slice Ao89 t1203.length co89)) (fun _ h_ => h_.1))))) (Kd.R_lt (by (with_reducible repeat (first | apply Kd.R_alloc | apply Kd.R_drewN | apply Kd.R_drew)); exact (Kd.R_mono (Kd.R_far (p := ⟨gb1206, 1, none⟩) (Kd.R_far (p := ⟨gb1206, 0, none⟩) (Kd.R_types HO1205.out BK1206.out (by decide)) (fun _ hk => hk.2) (.slice Ao87 t1200.length co87)) (fun _ hk => hk.2) (.slice Ao89 t1203.length co89)) (fun _ h_ => h_.1))))) (below_size (by repeat (first | (with_reducible first | exact HB.out | apply below_alloc | apply pw_below_drewN | apply below_drew1 | refine below_set ?_ GE1161.out | refine below_set ?_ GE1198.out | refine below_set ?_ GE1206.out) | exact HB.out)))); have n8_ := Aside0.mk (Kd.R_lower (Kd.R_new' (Kd.R_new' (Kd.R_new' (Kd.R_new' (Kd.R_new' (Kd.R_new' (Kd.R_mono (ok' := fun k_ => some k_ ≠ (v1208 : Value).ownBlock) ho1 (fun _ hk_ => hk_.2)) (Kd.R_lt (by (with_reducible repeat (first | apply Kd.R_alloc | apply Kd.R_drewN | apply Kd.R_drew)); exact (Kd.R_mono (Kd.R_far (p := ⟨gb1206, 1, none⟩) (Kd.R_far (p := ⟨gb1206, 0, none⟩) (Kd.R_types HO_1162000.out BK1206.out (by decide)) (fun _ hk => hk.2) (.slice Ao87 t1200.length co87)) (fun _ hk => hk.2) (.slice Ao89 t1203.length co89)) (fun _ h_ => h_.1))))) (Kd.R_lt (by (with_reducible repeat (first | apply Kd.R_alloc | apply Kd.R_drewN | apply Kd.R_drew)); exact (Kd.R_mono (Kd.R_far (p := ⟨gb1206, 1, none⟩) (Kd.R_far (p := ⟨gb1206, 0, none⟩) (Kd.R_types HO_1162001.out BK1206.out (by decide)) (fun _ hk => hk.2) (.slice Ao87 t1200.length co87)) (fun _ hk => hk.2) (.slice Ao89 t1203.length co89)) (fun _ h_ => h_.1))))) (Kd.R_lt (by (with_reducible repeat (first | apply Kd.R_alloc | apply Kd.R_drewN | apply Kd.R_drew)); exact (Kd.R_mono (Kd.R_far (p := ⟨gb1206, 1, none⟩) (Kd.R_far (p := ⟨gb1206, 0, none⟩) (Kd.R_types HO1193.out BK1206.out (by decide)) (fun _ hk => hk.2) (.slice Ao87 t1200.length co87)) (fun _ hk => hk.2) (.slice Ao89 t1203.length co89)) (fun _ h_ => h_.1))))) (Kd.R_lt (by (with_reducible repeat (first | apply Kd.R_alloc | apply Kd.R_drewN | apply Kd.R_drew)); exact (Kd.R_mono (Kd.R_far (p := ⟨gb1206, 1, none⟩) (Kd.R_far (p := ⟨gb1206, 0, none⟩) (Kd.R_types HO1196.out BK1206.out (by decide)) (fun _ hk => hk.2) (.slice Ao87 t1200.length co87)) (fun _ hk => hk.2) (.slice Ao89 t1203.length co89)) (fun _ h_ => h_.1))))) (Kd.R_lt (by (with_reducible repeat (first | apply Kd.R_alloc | apply Kd.R_drewN | apply Kd.R_drew)); exact (Kd.R_mono (Kd.R_far (p := ⟨gb1206, 1, none⟩) (Kd.R_far (p := ⟨gb1206, 0, none⟩) (Kd.R_types HO1202.out BK1206.out (by decide)) (fun _ hk => hk.2) (.slice Ao87 t1200.length co87)) (fun _ hk => hk.2) (.slice Ao89 t1203.length co89)) (fun _ h_ => h_.1))))) (Kd.R_lt (by (with_reducible repeat (first | apply Kd.R_alloc | apply Kd.R_drewN | apply Kd.R_drew)); exact (Kd.R_mono (Kd.R_far (p := ⟨gb1206, 1, none⟩) (Kd.R_far (p := ⟨gb1206, 0, none⟩) (Kd.R_types HO1205.out BK1206.out (by decide)) (fun _ hk => hk.2) (.slice Ao87 t1200.length co87)) (fun _ hk => hk.2) (.slice Ao89 t1203.length co89)) (fun _ h_ => h_.1))))) (below_size (by repeat (first | (with_reducible first | exact HB.out | apply below_alloc | apply pw_below_drewN | apply below_drew1 | refine below_set ?_ GE1161.out | refine below_set ?_ GE1198.out | refine below_set ?_ GE1206.out) | exact HB.out)))); have n9_ := Aside0.mk (Kd.V_lower (Kd.V_mono (ok' := fun k_ => some k_ ≠ (v1208 : Value).ownBlock ∧ some k_ ≠ (v1211 : Value).ownBlock ∧ some k_ ≠ (v1218 : Value).ownBlock ∧ some k_ ≠ (.slice Ao72 t1157.length co72 : Value).ownBlock ∧ some k_ ≠ (.slice Ao74 x1162000_3.length co74 : Value).ownBlock ∧ some k_ ≠ (.slice Ao75 x1162001_3.length co75 : Value).ownBlock ∧ some k_ ≠ (.slice Ao78 t1191.length co78 : Value).ownBlock ∧ some k_ ≠ (.slice Ao81 t1194.length co81 : Value).ownBlock ∧ some k_ ≠ (.slice Ao87 t1200.length co87 : Value).ownBlock ∧ some k_ ≠ (.slice Ao89 t1203.length co89 : Value).ownBlock ∧ k_ ≠ gb1161 ∧ k_ ≠ gb1198 ∧ k_ ≠ gb1206) ho2 (fun k_ hk_ => ⟨hk_.2.1, hk_.2.2.1, hk_.2.2.2, (Kd.fresh' (Kd.N_lt (by (with_reducible repeat (first | apply Kd.N_alloc | apply Kd.N_drewN | apply Kd.N_drew)); exact (Kd.N_mono (Kd.N_far (p := ⟨gb1206, 1, none⟩) (Kd.N_far (p := ⟨gb1206, 0, none⟩) (Kd.N_mono HO_1.out (fun k_ hk => (⟨hk, hk.2.2.2.2.2.2.2.2⟩ : _ ∧ k_ ≠ gb1206))) (fun _ hk => hk.2) (.slice Ao87 t1200.length co87)) (fun _ hk => hk.2) (.slice Ao89 t1203.length co89)) (fun _ h_ => h_.1)))) k_ hk_.1), (Kd.fresh' (Kd.R_lt (by (with_reducible repeat (first | apply Kd.R_alloc | apply Kd.R_drewN | apply Kd.R_drew)); exact (Kd.R_mono (Kd.R_far (p := ⟨gb1206, 1, none⟩) (Kd.R_far (p := ⟨gb1206, 0, none⟩) (Kd.R_types HO_1162000.out BK1206.out (by decide)) (fun _ hk => hk.2) (.slice Ao87 t1200.length co87)) (fun _ hk => hk.2) (.slice Ao89 t1203.length co89)) (fun _ h_ => h_.1)))) k_ hk_.1), (Kd.fresh' (Kd.R_lt (by (with_reducible repeat (first | apply Kd.R_alloc | apply Kd.R_drewN | apply Kd.R_drew)); exact (Kd.R_mono (Kd.R_far (p := ⟨gb1206, 1, none⟩) (Kd.R_far (p := ⟨gb1206, 0, none⟩) (Kd.R_types HO_1162001.out BK1206.out (by decide)) (fun _ hk => hk.2) (.slice Ao87 t1200.length co87)) (fun _ hk => hk.2) (.slice Ao89 t1203.length co89)) (fun _ h_ => h_.1)))) k_ hk_.1), (Kd.fresh' (Kd.R_lt (by (with_reducible repeat (first | apply Kd.R_alloc | apply Kd.R_drewN | apply Kd.R_drew)); exact (Kd.R_mono (Kd.R_far (p := ⟨gb1206, 1, none⟩) (Kd.R_far (p := ⟨gb1206, 0, none⟩) (Kd.R_types HO1193.out BK1206.out (by decide)) (fun _ hk => hk.2) (.slice Ao87 t1200.length co87)) (fun _ hk => hk.2) (.slice Ao89 t1203.length co89)) (fun _ h_ => h_.1)))) k_ hk_.1), (Kd.fresh' (Kd.R_lt (by (with_reducible repeat (first | apply Kd.R_alloc | apply Kd.R_drewN | apply Kd.R_drew)); exact (Kd.R_mono (Kd.R_far (p := ⟨gb1206, 1, none⟩) (Kd.R_far (p := ⟨gb1206, 0, none⟩) (Kd.R_types HO1196.out BK1206.out (by decide)) (fun _ hk => hk.2) (.slice Ao87 t1200.length co87)) (fun _ hk => hk.2) (.slice Ao89 t1203.length co89)) (fun _ h_ => h_.1)))) k_ hk_.1), (Kd.fresh' (Kd.R_lt (by (with_reducible repeat (first | apply Kd.R_alloc | apply Kd.R_drewN | apply Kd.R_drew)); exact (Kd.R_mono (Kd.R_far (p := ⟨gb1206, 1, none⟩) (Kd.R_far (p := ⟨gb1206, 0, none⟩) (Kd.R_types HO1202.out BK1206.out (by decide)) (fun _ hk => hk.2) (.slice Ao87 t1200.length co87)) (fun _ hk => hk.2) (.slice Ao89 t1203.length co89)) (fun _ h_ => h_.1)))) k_ hk_.1), (Kd.fresh' (Kd.R_lt (by (with_reducible repeat (first | apply Kd.R_alloc | apply Kd.R_drewN | apply Kd.R_drew)); exact (Kd.R_mono (Kd.R_far (p := ⟨gb1206, 1, none⟩) (Kd.R_far (p := ⟨gb1206, 0, none⟩) (Kd.R_types HO1205.out BK1206.out (by decide)) (fun _ hk => hk.2) (.slice Ao87 t1200.length co87)) (fun _ hk => hk.2) (.slice Ao89 t1203.length co89)) (fun _ h_ => h_.1)))) k_ hk_.1), (Kd.freshB (g := gb1161) (o := .cells #[.slice Ao74 x1162000_3.length co74, .slice Ao75 x1162001_3.length co75] 24 (0, 0)) (by (with_reducible repeat (first | refine blk_drewN ?_ _ | refine blk_drew ?_ | refine blk_alloc ?_ _)); refine blk_far ?_ NB1161_1206.out _; (with_reducible repeat (first | refine blk_drewN ?_ _ | refine blk_drew ?_ | refine blk_alloc ?_ _)); refine blk_far ?_ NB1161_1206.out _; (with_reducible repeat (first | refine blk_drewN ?_ _ | refine blk_drew ?_ | refine blk_alloc ?_ _)); exact BK1161.out) k_ hk_.1), (Kd.freshB (g := gb1198) (o := .cells #[.slice Ao78 t1191.length co78, .slice Ao81 t1194.length co81] 24 (0, 0)) (by (with_reducible repeat (first | refine blk_drewN ?_ _ | refine blk_drew ?_ | refine blk_alloc ?_ _)); refine blk_far ?_ NB1198_1206.out _; (with_reducible repeat (first | refine blk_drewN ?_ _ | refine blk_drew ?_ | refine blk_alloc ?_ _)); refine blk_far ?_ NB1198_1206.out _; (with_reducible repeat (first | refine blk_drewN ?_ _ | refine blk_drew ?_ | refine blk_alloc ?_ _)); exact BK1198.out) k_ hk_.1), (Kd.freshB (g := gb1206) (o := .cells #[.slice Ao87 t1200.length co87, .slice Ao89 t1203.length co89] 24 (0, 0)) (by (with_reducible repeat (first | refine blk_drewN ?_ _ | refine blk_drew ?_ | refine blk_alloc ?_ _)); refine blk_put (cs := #[.slice Ao87 t1200.length co87, .slice none 0 0]) ?_ 1 _ rfl; (with_reducible repeat (first | refine blk_drewN ?_ _ | refine blk_drew ?_ | refine blk_alloc ?_ _)); refine blk_put (cs := #[.slice none 0 0, .slice none 0 0]) ?_ 0 _ rfl; (with_reducible repeat (first | refine blk_drewN ?_ _ | refine blk_drew ?_ | refine blk_alloc ?_ _)); exact BK1206.out) k_ hk_.1)⟩)) (below_size (by repeat (first | (with_reducible first | exact HB.out | apply below_alloc | apply pw_below_drewN | apply below_drew1 | refine below_set ?_ GE1161.out | refine below_set ?_ GE1198.out | refine below_set ?_ GE1206.out) | exact HB.out)))); have n10_ := Aside0.mk (Kd.N_lower (Kd.N_mono (ok' := fun k_ => some k_ ≠ (v1208 : Value).ownBlock ∧ some k_ ≠ (v1211 : Value).ownBlock ∧ some k_ ≠ (.slice Ao72 t1157.length co72 : Value).ownBlock ∧ some k_ ≠ (.slice Ao74 x1162000_3.length co74 : Value).ownBlock ∧ some k_ ≠ (.slice Ao75 x1162001_3.length co75 : Value).ownBlock ∧ some k_ ≠ (.slice Ao78 t1191.length co78 : Value).ownBlock ∧ some k_ ≠ (.slice Ao81 t1194.length co81 : Value).ownBlock ∧ some k_ ≠ (.slice Ao87 t1200.length co87 : Value).ownBlock ∧ some k_ ≠ (.slice Ao89 t1203.length co89 : Value).ownBlock ∧ k_ ≠ gb1161 ∧ k_ ≠ gb1198 ∧ k_ ≠ gb1206) ho3 (fun k_ hk_ => ⟨hk_.2.1, hk_.2.2, (Kd.fresh' (Kd.N_lt (by (with_reducible repeat (first | apply Kd.N_alloc | apply Kd.N_drewN | apply Kd.N_drew)); exact (Kd.N_mono (Kd.N_far (p := ⟨gb1206, 1, none⟩) (Kd.N_far (p := ⟨gb1206, 0, none⟩) (Kd.N_mono HO_1.out (fun k_ hk => (⟨hk, hk.2.2.2.2.2.2.2.2⟩ : _ ∧ k_ ≠ gb1206))) (fun _ hk => hk.2) (.slice Ao87 t1200.length co87)) (fun _ hk => hk.2) (.slice Ao89 t1203.length co89)) (fun _ h_ => h_.1)))) k_ hk_.1), (Kd.fresh' (Kd.R_lt (by (with_reducible repeat (first | apply Kd.R_alloc | apply Kd.R_drewN | apply Kd.R_drew)); exact (Kd.R_mono (Kd.R_far (p := ⟨gb1206, 1, none⟩) (Kd.R_far (p := ⟨gb1206, 0, none⟩) (Kd.R_types HO_1162000.out BK1206.out (by decide)) (fun _ hk => hk.2) (.slice Ao87 t1200.length co87)) (fun _ hk => hk.2) (.slice Ao89 t1203.length co89)) (fun _ h_ => h_.1)))) k_ hk_.1), (Kd.fresh' (Kd.R_lt (by (with_reducible repeat (first | apply Kd.R_alloc | apply Kd.R_drewN | apply Kd.R_drew)); exact (Kd.R_mono (Kd.R_far (p := ⟨gb1206, 1, none⟩) (Kd.R_far (p := ⟨gb1206, 0, none⟩) (Kd.R_types HO_1162001.out BK1206.out (by decide)) (fun _ hk => hk.2) (.slice Ao87 t1200.length co87)) (fun _ hk => hk.2) (.slice Ao89 t1203.length co89)) (fun _ h_ => h_.1)))) k_ hk_.1), (Kd.fresh' (Kd.R_lt (by (with_reducible repeat (first | apply Kd.R_alloc | apply Kd.R_drewN | apply Kd.R_drew)); exact (Kd.R_mono (Kd.R_far (p := ⟨gb1206, 1, none⟩) (Kd.R_far (p := ⟨gb1206, 0, none⟩) (Kd.R_types HO1193.out BK1206.out (by decide)) (fun _ hk => hk.2) (.slice Ao87 t1200.length co87)) (fun _ hk => hk.2) (.slice Ao89 t1203.length co89)) (fun _ h_ => h_.1)))) k_ hk_.1), (Kd.fresh' (Kd.R_lt (by (with_reducible repeat (first | apply Kd.R_alloc | apply Kd.R_drewN | apply Kd.R_drew)); exact (Kd.R_mono (Kd.R_far (p := ⟨gb1206, 1, none⟩) (Kd.R_far (p := ⟨gb1206, 0, none⟩) (Kd.R_types HO1196.out BK1206.out (by decide)) (fun _ hk => hk.2) (.slice Ao87 t1200.length co87)) (fun _ hk => hk.2) (.slice Ao89 t1203.length co89)) (fun _ h_ => h_.1)))) k_ hk_.1), (Kd.fresh' (Kd.R_lt (by (with_reducible repeat (first | apply Kd.R_alloc | apply Kd.R_drewN | apply Kd.R_drew)); exact (Kd.R_mono (Kd.R_far (p := ⟨gb1206, 1, none⟩) (Kd.R_far (p := ⟨gb1206, 0, none⟩) (Kd.R_types HO1202.out BK1206.out (by decide)) (fun _ hk => hk.2) (.slice Ao87 t1200.length co87)) (fun _ hk => hk.2) (.slice Ao89 t1203.length co89)) (fun _ h_ => h_.1)))) k_ hk_.1), (Kd.fresh' (Kd.R_lt (by (with_reducible repeat (first | apply Kd.R_alloc | apply Kd.R_drewN | apply Kd.R_drew)); exact (Kd.R_mono (Kd.R_far (p := ⟨gb1206, 1, none⟩) (Kd.R_far (p := ⟨gb1206, 0, none⟩) (Kd.R_types HO1205.out BK1206.out (by decide)) (fun _ hk => hk.2) (.slice Ao87 t1200.length co87)) (fun _ hk => hk.2) (.slice Ao89 t1203.length co89)) (fun _ h_ => h_.1)))) k_ hk_.1), (Kd.freshB (g := gb1161) (o := .cells #[.slice Ao74 x1162000_3.length co74, .slice Ao75 x1162001_3.length co75] 24 (0, 0)) (by (with_reducible repeat (first | refine blk_drewN ?_ _ | refine blk_drew ?_ | refine blk_alloc ?_ _)); refine blk_far ?_ NB1161_1206.out _; (with_reducible repeat (first | refine blk_drewN ?_ _ | refine blk_drew ?_ | refine blk_alloc ?_ _)); refine blk_far ?_ NB1161_1206.out _; (with_reducible repeat (first | refine blk_drewN ?_ _ | refine blk_drew ?_ | refine blk_alloc ?_ _)); exact BK1161.out) k_ hk_.1), (Kd.freshB (g := gb1198) (o := .cells #[.slice Ao78 t1191.length co78, .slice Ao81 t1194.length co81] 24 (0, 0)) (by (with_reducible repeat (first | refine blk_drewN ?_ _ | refine blk_drew ?_ | refine blk_alloc ?_ _)); refine blk_far ?_ NB1198_1206.out _; (with_reducible repeat (first | refine blk_drewN ?_ _ | refine blk_drew ?_ | refine blk_alloc ?_ _)); refine blk_far ?_ NB1198_1206.out _; (with_reducible repeat (first | refine blk_drewN ?_ _ | refine blk_drew ?_ | refine blk_alloc ?_ _)); exact BK1198.out) k_ hk_.1), (Kd.freshB (g := gb1206) (o := .cells #[.slice Ao87 t1200.length co87, .slice Ao89 t1203.length co89] 24 (0, 0)) (by (with_reducible repeat (first | refine blk_drewN ?_ _ | refine blk_drew ?_ | refine blk_alloc ?_ _)); refine blk_put (cs := #[.slice Ao87 t1200.length co87, .slice none 0 0]) ?_ 1 _ rfl; (with_reducible repeat (first | refine blk_drewN ?_ _ | refine blk_drew ?_ | refine blk_alloc ?_ _)); refine blk_put (cs := #[.slice none 0 0, .slice none 0 0]) ?_ 0 _ rfl; (with_reducible repeat (first | refine blk_drewN ?_ _ | refine blk_drew ?_ | refine blk_alloc ?_ _)); exact BK1206.out) k_ hk_.1)⟩)) (below_size (by repeat (first | (with_reducible first | exact HB.out | apply below_alloc | apply pw_below_drewN | apply below_drew1 | refine below_set ?_ GE1161.out | refine below_set ?_ GE1198.out | refine below_set ?_ GE1206.out) | exact HB.out)))); have n11_ := Aside0.mk (blk_below (g := gb1161) (o := .cells #[.slice Ao74 x1162000_3.length co74, .slice Ao75 x1162001_3.length co75] 24 (0, 0)) (by (with_reducible repeat (first | refine blk_drewN ?_ _ | refine blk_drew ?_ | refine blk_alloc ?_ _)); refine blk_far ?_ NB1161_1206.out _; (with_reducible repeat (first | refine blk_drewN ?_ _ | refine blk_drew ?_ | refine blk_alloc ?_ _)); refine blk_far ?_ NB1161_1206.out _; (with_reducible repeat (first | refine blk_drewN ?_ _ | refine blk_drew ?_ | refine blk_alloc ?_ _)); exact BK1161.out) hb); have n12_ := Aside0.mk (blk_below (g := gb1198) (o := .cells #[.slice Ao78 t1191.length co78, .slice Ao81 t1194.length co81] 24 (0, 0)) (by (with_reducible repeat (first | refine blk_drewN ?_ _ | refine blk_drew ?_ | refine blk_alloc ?_ _)); refine blk_far ?_ NB1198_1206.out _; (with_reducible repeat (first | refine blk_drewN ?_ _ | refine blk_drew ?_ | refine blk_alloc ?_ _)); refine blk_far ?_ NB1198_1206.out _; (with_reducible repeat (first | refine blk_drewN ?_ _ | refine blk_drew ?_ | refine blk_alloc ?_ _)); exact BK1198.out) hb); have n13_ := Aside0.mk (blk_below (g := gb1206) (o := .cells #[.slice Ao87 t1200.length co87, .slice Ao89 t1203.length co89] 24 (0, 0)) (by (with_reducible repeat (first | refine blk_drewN ?_ _ | refine blk_drew ?_ | refine blk_alloc ?_ _)); refine blk_put (cs := #[.slice Ao87 t1200.length co87, .slice none 0 0]) ?_ 1 _ rfl; (with_reducible repeat (first | refine blk_drewN ?_ _ | refine blk_drew ?_ | refine blk_alloc ?_ _)); refine blk_put (cs := #[.slice none 0 0, .slice none 0 0]) ?_ 0 _ rfl; (with_reducible repeat (first | refine blk_drewN ?_ _ | refine blk_drew ?_ | refine blk_alloc ?_ _)); exact BK1206.out) hb); have n14_ := Aside0.mk (below_step (by repeat (first | (with_reducible first | exact HB.out | apply below_alloc | apply pw_below_drewN | apply below_drew1 | refine below_set ?_ GE1161.out | refine below_set ?_ GE1198.out | refine below_set ?_ GE1206.out) | exact HB.out)) hb); clear HO_1; clear HO_1162000; clear HO_1162001; clear HO1193; clear HO1196; clear HO1202; clear HO1205; clear BK1161; clear BK1198; clear BK1206; clear HB; have HO_1 := n0_; have HO_1162000 := n1_; have HO_1162001 := n2_; have HO1193 := n3_; have HO1196 := n4_; have HO1202 := n5_; have HO1205 := n6_; have HO1209 := n7_; have HO1212 := n8_; have HO1215 := n9_; have HO1219 := n10_; have BK1161 := n11_; have BK1198 := n12_; have BK1206 := n13_; have HB := n14_; clear n0_ n1_ n2_ n3_ n4_ n5_ n6_ n7_ n8_ n9_ n10_ n11_ n12_ n13_ n14_; (try clear hb); (try clear hb2); (try clear hk); (try clear hi); (try clear ho0); (try clear ho1); (try clear ho2); (try clear ho3)) | ((with_reducible refine gate_dst (N := 18) rfl ?_); (try (refine gate_guard (by rfl) ?_; dsimp only)); refine box_event ?hg (N := 18) ?hd (cs := #[.slice none 0 0, .slice none 0 0]) (t := 24) ?hr ?_; (case hd => rfl); (case hg => rfl); (case hr => first | (go_simp; done) | (go_simp; rfl)); intro gb1220 hg w95 hbox hb; have n0_ := Aside0.mk (Kd.N_below (Kd.N_elderB (by (with_reducible repeat (first | apply Kd.N_alloc | apply Kd.N_drewN | apply Kd.N_drew)); exact HO_1.out) gb1220 (Nat.le_of_eq hg.symm)) hb); have n1_ := Aside0.mk (Kd.R_below (by (with_reducible repeat (first | apply Kd.R_alloc | apply Kd.R_drewN | apply Kd.R_drew)); exact HO_1162000.out) hb); have n2_ := Aside0.mk (Kd.R_below (by (with_reducible repeat (first | apply Kd.R_alloc | apply Kd.R_drewN | apply Kd.R_drew)); exact HO_1162001.out) hb); have n3_ := Aside0.mk (Kd.R_below (by (with_reducible repeat (first | apply Kd.R_alloc | apply Kd.R_drewN | apply Kd.R_drew)); exact HO1193.out) hb); have n4_ := Aside0.mk (Kd.R_below (by (with_reducible repeat (first | apply Kd.R_alloc | apply Kd.R_drewN | apply Kd.R_drew)); exact HO1196.out) hb); have n5_ := Aside0.mk (Kd.R_below (by (with_reducible repeat (first | apply Kd.R_alloc | apply Kd.R_drewN | apply Kd.R_drew)); exact HO1202.out) hb); have n6_ := Aside0.mk (Kd.R_below (by (with_reducible repeat (first | apply Kd.R_alloc | apply Kd.R_drewN | apply Kd.R_drew)); exact HO1205.out) hb); have n7_ := Aside0.mk (Kd.R_below (by (with_reducible repeat (first | apply Kd.R_alloc | apply Kd.R_drewN | apply Kd.R_drew)); exact HO1209.out) hb); have n8_ := Aside0.mk (Kd.R_below (by (with_reducible repeat (first | apply Kd.R_alloc | apply Kd.R_drewN | apply Kd.R_drew)); exact HO1212.out) hb); have n9_ := Aside0.mk (Kd.V_below (Kd.V_elderB (by (with_reducible repeat (first | apply Kd.V_alloc | apply Kd.V_drewN | apply Kd.V_drew)); exact HO1215.out) gb1220 (Nat.le_of_eq hg.symm)) hb); have n10_ := Aside0.mk (Kd.N_below (Kd.N_elderB (by (with_reducible repeat (first | apply Kd.N_alloc | apply Kd.N_drewN | apply Kd.N_drew)); exact HO1219.out) gb1220 (Nat.le_of_eq hg.symm)) hb); have n11_ := Aside0.mk (blk_below (g := gb1161) (o := .cells #[.slice Ao74 x1162000_3.length co74, .slice Ao75 x1162001_3.length co75] 24 (0, 0)) (by (with_reducible repeat (first | refine blk_drewN ?_ _ | refine blk_drew ?_ | refine blk_alloc ?_ _)); exact BK1161.out) hb); have n12_ := Aside0.mk (blk_below (g := gb1198) (o := .cells #[.slice Ao78 t1191.length co78, .slice Ao81 t1194.length co81] 24 (0, 0)) (by (with_reducible repeat (first | refine blk_drewN ?_ _ | refine blk_drew ?_ | refine blk_alloc ?_ _)); exact BK1198.out) hb); have n13_ := Aside0.mk (blk_below (g := gb1206) (o := .cells #[.slice Ao87 t1200.length co87, .slice Ao89 t1203.length co89] 24 (0, 0)) (by (with_reducible repeat (first | refine blk_drewN ?_ _ | refine blk_drew ?_ | refine blk_alloc ?_ _)); exact BK1206.out) hb); have n14_ := Aside0.mk (below_step (by repeat (first | (with_reducible first | exact HB.out | apply below_alloc | apply pw_below_drewN | apply below_drew1 | refine below_set ?_ GE1161.out | refine below_set ?_ GE1198.out | refine below_set ?_ GE1206.out) | exact HB.out)) hb); have n15_ := Aside0.mk (hbox); have n16_ := Aside0.mk ((by rw [hg]; exact (below_size (by repeat (first | (with_reducible first | exact HB.out | apply below_alloc | apply pw_below_drewN | apply below_drew1 | refine below_set ?_ GE1161.out | refine below_set ?_ GE1198.out | refine below_set ?_ GE1206.out) | exact HB.out))) : w.heap.size ≤ gb1220)); have n17_ := Aside0.mk ((by rw [hg]; exact (below_size (by repeat (first | (with_reducible first | exact HB.out | apply below_alloc | apply pw_below_drewN | apply below_drew1 | refine below_set ?_ GE1161.out | refine below_set ?_ GE1198.out | refine below_set ?_ GE1206.out) | exact HB.out))) : w.heap.size ≤ gb1220)); have n18_ := Aside0.mk ((by rw [hg]; exact Nat.ne_of_lt (blk_lt (g := gb1161) (o := .cells #[.slice Ao74 x1162000_3.length co74, .slice Ao75 x1162001_3.length co75] 24 (0, 0)) (by (with_reducible repeat (first | refine blk_drewN ?_ _ | refine blk_drew ?_ | refine blk_alloc ?_ _)); exact BK1161.out)) : gb1161 ≠ gb1220)); have n19_ := Aside0.mk ((by rw [hg]; exact Nat.ne_of_gt (blk_lt (g := gb1161) (o := .cells #[.slice Ao74 x1162000_3.length co74, .slice Ao75 x1162001_3.length co75] 24 (0, 0)) (by (with_reducible repeat (first | refine blk_drewN ?_ _ | refine blk_drew ?_ | refine blk_alloc ?_ _)); exact BK1161.out)) : gb1220 ≠ gb1161)); have n20_ := Aside0.mk ((by rw [hg]; exact Nat.ne_of_lt (blk_lt (g := gb1198) (o := .cells #[.slice Ao78 t1191.length co78, .slice Ao81 t1194.length co81] 24 (0, 0)) (by (with_reducible repeat (first | refine blk_drewN ?_ _ | refine blk_drew ?_ | refine blk_alloc ?_ _)); exact BK1198.out)) : gb1198 ≠ gb1220)); have n21_ := Aside0.mk ((by rw [hg]; exact Nat.ne_of_gt (blk_lt (g := gb1198) (o := .cells #[.slice Ao78 t1191.length co78, .slice Ao81 t1194.length co81] 24 (0, 0)) (by (with_reducible repeat (first | refine blk_drewN ?_ _ | refine blk_drew ?_ | refine blk_alloc ?_ _)); exact BK1198.out)) : gb1220 ≠ gb1198)); have n22_ := Aside0.mk ((by rw [hg]; exact Nat.ne_of_lt (blk_lt (g := gb1206) (o := .cells #[.slice Ao87 t1200.length co87, .slice Ao89 t1203.length co89] 24 (0, 0)) (by (with_reducible repeat (first | refine blk_drewN ?_ _ | refine blk_drew ?_ | refine blk_alloc ?_ _)); exact BK1206.out)) : gb1206 ≠ gb1220)); have n23_ := Aside0.mk ((by rw [hg]; exact Nat.ne_of_gt (blk_lt (g := gb1206) (o := .cells #[.slice Ao87 t1200.length co87, .slice Ao89 t1203.length co89] 24 (0, 0)) (by (with_reducible repeat (first | refine blk_drewN ?_ _ | refine blk_drew ?_ | refine blk_alloc ?_ _)); exact BK1206.out)) : gb1220 ≠ gb1206)); clear HO_1; clear HO_1162000; clear HO_1162001; clear HO1193; clear HO1196; clear HO1202; clear HO1205; clear HO1209; clear HO1212; clear HO1215; clear HO1219; clear BK1161; clear BK1198; clear BK1206; clear HB; have HO_1 := n0_; have HO_1162000 := n1_; have HO_1162001 := n2_; have HO1193 := n3_; have HO1196 := n4_; have HO1202 := n5_; have HO1205 := n6_; have HO1209 := n7_; have HO1212 := n8_; have HO1215 := n9_; have HO1219 := n10_; have BK1161 := n11_; have BK1198 := n12_; have BK1206 := n13_; have HB := n14_; have BK1220 := n15_; have GW1220 := n16_; have GE1220 := n17_; have NB1161_1220 := n18_; have NB1220_1161 := n19_; have NB1198_1220 := n20_; have NB1220_1198 := n21_; have NB1206_1220 := n22_; have NB1220_1206 := n23_; clear n0_ n1_ n2_ n3_ n4_ n5_ n6_ n7_ n8_ n9_ n10_ n11_ n12_ n13_ n14_ n15_ n16_ n17_ n18_ n19_ n20_ n21_ n22_ n23_; clear hb hbox hg; obtain ⟨Ao96, co96, eo96⟩ := Kd.R_slice HO1209.out; subst eo96; have hnb97 := NB1220_1161.out; have hnc97 := NB1161_1220.out; have hnb98 := NB1220_1198.out; have hnc98 := NB1198_1220.out; have hnb99 := NB1220_1206.out; have hnc99 := NB1206_1220.out; have hcz100_0 : w95.cell? ⟨gb1220, 0, none⟩ = some (.slice none 0 0) := (blk_cell BK1220.out 0).trans rfl; have hcz100_1 : w95.cell? ⟨gb1220, 1, none⟩ = some (.slice none 0 0) := (blk_cell BK1220.out 1).trans rfl; have hfz100_0 := blk_frozen BK1220.out 0; have hfz100_1 := blk_frozen BK1220.out 1; obtain ⟨Ao101, co101, eo101⟩ := Kd.R_slice HO1212.out; subst eo101; have hcz102_0 : w95.cell? ⟨gb1198, 0, none⟩ = some (.slice Ao78 t1191.length co78) := (blk_cell BK1198.out 0).trans rfl; have hcz102_1 : w95.cell? ⟨gb1198, 1, none⟩ = some (.slice Ao81 t1194.length co81) := (blk_cell BK1198.out 1).trans rfl; have hfz102_0 := blk_frozen BK1198.out 0; have hfz102_1 := blk_frozen BK1198.out 1) | ((with_reducible refine gate_callee (f := 19) rfl ?_); refine goesL_ (some 101) rfl rfl Try.func19 (by kernel_rfl) rfl #[.agg #[.slice Ao78 t1191.length co78, .slice Ao81 t1194.length co81]] rfl (by (try simp only [List.map_toArray, List.map_cons, List.map_nil]); first | done | rfl | (simp only [List.length_drop, List.length_take]; rfl)) ?_; (with_reducible refine (disk_Sync.calls _ _ t1191 _ _ t1194 t1221 t1224 _ ?side1 ?side2 ?side3 ?side4 A58.out).mono ?_); (case side1 => refine (Kd.R_reads' (e := 5) (base := w.heap.size) (ok := fun k_ => (((some k_ ≠ (.slice Ao81 t1194.length co81 : Value).ownBlock ∧ (some k_ ≠ (.slice Ao87 t1200.length co87 : Value).ownBlock ∧ (some k_ ≠ (.slice Ao89 t1203.length co89 : Value).ownBlock ∧ (some k_ ≠ (.slice Ao74 x1162000_3.length co74 : Value).ownBlock ∧ some k_ ≠ (.slice Ao75 x1162001_3.length co75 : Value).ownBlock)))) ∧ some k_ ≠ (.slice Ao96 t1207.length co96 : Value).ownBlock) ∧ some k_ ≠ (.slice Ao101 t1210.length co101 : Value).ownBlock)) (n := t1191.length) (c := co78) ?_).2.2; exact (by (with_reducible repeat (first | apply Kd.R_alloc | apply Kd.R_drewN | apply Kd.R_drew)); exact (Kd.R_mono (Kd.R_far (p := ⟨gb1220, 1, none⟩) (Kd.R_far (p := ⟨gb1220, 0, none⟩) (Kd.R_types HO1193.out BK1220.out (by decide)) (fun _ hk => hk.2) (.slice Ao96 t1207.length co96)) (fun _ hk => hk.2) (.slice Ao101 t1210.length co101)) (fun _ h_ => h_.1)))); (case side2 => exact (Kd.R_reads' HO1193.out).2.1); (case side3 => refine (Kd.R_reads' (e := 5) (base := w.heap.size) (ok := fun k_ => (((some k_ ≠ (.slice Ao78 t1191.length co78 : Value).ownBlock ∧ (some k_ ≠ (.slice Ao87 t1200.length co87 : Value).ownBlock ∧ (some k_ ≠ (.slice Ao89 t1203.length co89 : Value).ownBlock ∧ (some k_ ≠ (.slice Ao74 x1162000_3.length co74 : Value).ownBlock ∧ some k_ ≠ (.slice Ao75 x1162001_3.length co75 : Value).ownBlock)))) ∧ some k_ ≠ (.slice Ao96 t1207.length co96 : Value).ownBlock) ∧ some k_ ≠ (.slice Ao101 t1210.length co101 : Value).ownBlock)) (n := t1194.length) (c := co81) ?_).2.2; exact (by (with_reducible repeat (first | apply Kd.R_alloc | apply Kd.R_drewN | apply Kd.R_drew)); exact (Kd.R_mono (Kd.R_far (p := ⟨gb1220, 1, none⟩) (Kd.R_far (p := ⟨gb1220, 0, none⟩) (Kd.R_types HO1196.out BK1220.out (by decide)) (fun _ hk => hk.2) (.slice Ao96 t1207.length co96)) (fun _ hk => hk.2) (.slice Ao101 t1210.length co101)) (fun _ h_ => h_.1)))); (case side4 => exact (Kd.R_reads' HO1196.out).2.1); rintro e w103 ⟨v1222, v1225, rfl, ho0, ho1, hb⟩; refine ⟨_, rfl, ?_⟩; have n0_ := Aside0.mk (Kd.N_mono (Kd.N_told (Kd.N_told (Kd.N_old (by (with_reducible repeat (first | apply Kd.N_alloc | apply Kd.N_drewN | apply Kd.N_drew)); exact (Kd.N_mono (Kd.N_far (p := ⟨gb1220, 1, none⟩) (Kd.N_far (p := ⟨gb1220, 0, none⟩) (Kd.N_mono HO_1.out (fun k_ hk => (⟨hk, hk.2⟩ : _ ∧ k_ ≠ gb1220))) (fun _ hk => hk.2) (.slice Ao96 t1207.length co96)) (fun _ hk => hk.2) (.slice Ao101 t1210.length co101)) (fun _ h_ => h_.1))) hb) (Kd.R_base ho0)) (Kd.R_base ho1)) (fun _ h_ => h_.1)); have n1_ := Aside0.mk (Kd.R_mono (Kd.R_told (Kd.R_told (Kd.R_old (by (with_reducible repeat (first | apply Kd.R_alloc | apply Kd.R_drewN | apply Kd.R_drew)); exact (Kd.R_mono (Kd.R_far (p := ⟨gb1220, 1, none⟩) (Kd.R_far (p := ⟨gb1220, 0, none⟩) (Kd.R_types HO_1162000.out BK1220.out (by decide)) (fun _ hk => hk.2) (.slice Ao96 t1207.length co96)) (fun _ hk => hk.2) (.slice Ao101 t1210.length co101)) (fun _ h_ => h_.1))) hb) (Kd.R_base ho0)) (Kd.R_base ho1)) (fun _ h_ => h_.1)); have n2_ := Aside0.mk (Kd.R_mono (Kd.R_told (Kd.R_told (Kd.R_old (by (with_reducible repeat (first | apply Kd.R_alloc | apply Kd.R_drewN | apply Kd.R_drew)); exact (Kd.R_mono (Kd.R_far (p := ⟨gb1220, 1, none⟩) (Kd.R_far (p := ⟨gb1220, 0, none⟩) (Kd.R_types HO_1162001.out BK1220.out (by decide)) (fun _ hk => hk.2) (.slice Ao96 t1207.length co96)) (fun _ hk => hk.2) (.slice Ao101 t1210.length co101)) (fun _ h_ => h_.1))) hb) (Kd.R_base ho0)) (Kd.R_base ho1)) (fun _ h_ => h_.1)); have n3_ := Aside0.mk (Kd.R_mono (Kd.R_told (Kd.R_told (Kd.R_old (by (with_reducible repeat (first | apply Kd.R_alloc | apply Kd.R_drewN | apply Kd.R_drew)); exact (Kd.R_mono (Kd.R_far (p := ⟨gb1220, 1, none⟩) (Kd.R_far (p := ⟨gb1220, 0, none⟩) (Kd.R_types HO1193.out BK1220.out (by decide)) (fun _ hk => hk.2) (.slice Ao96 t1207.length co96)) (fun _ hk => hk.2) (.slice Ao101 t1210.length co101)) (fun _ h_ => h_.1))) hb) (Kd.R_base ho0)) (Kd.R_base ho1)) (fun _ h_ => h_.1)); have n4_ := Aside0.mk (Kd.R_mono (Kd.R_told (Kd.R_told (Kd.R_old (by (with_reducible repeat (first | apply Kd.R_alloc | apply Kd.R_drewN | apply Kd.R_drew)); exact (Kd.R_mono (Kd.R_far (p := ⟨gb1220, 1, none⟩) (Kd.R_far (p := ⟨gb1220, 0, none⟩) (Kd.R_types HO1196.out BK1220.out (by decide)) (fun _ hk => hk.2) (.slice Ao96 t1207.length co96)) (fun _ hk => hk.2) (.slice Ao101 t1210.length co101)) (fun _ h_ => h_.1))) hb) (Kd.R_base ho0)) (Kd.R_base ho1)) (fun _ h_ => h_.1)); have n5_ := Aside0.mk (Kd.R_mono (Kd.R_told (Kd.R_told (Kd.R_old (by (with_reducible repeat (first | apply Kd.R_alloc | apply Kd.R_drewN | apply Kd.R_drew)); exact (Kd.R_mono (Kd.R_far (p := ⟨gb1220, 1, none⟩) (Kd.R_far (p := ⟨gb1220, 0, none⟩) (Kd.R_types HO1202.out BK1220.out (by decide)) (fun _ hk => hk.2) (.slice Ao96 t1207.length co96)) (fun _ hk => hk.2) (.slice Ao101 t1210.length co101)) (fun _ h_ => h_.1))) hb) (Kd.R_base ho0)) (Kd.R_base ho1)) (fun _ h_ => h_.1)); have n6_ := Aside0.mk (Kd.R_mono (Kd.R_told (Kd.R_told (Kd.R_old (by (with_reducible repeat (first | apply Kd.R_alloc | apply Kd.R_drewN | apply Kd.R_drew)); exact (Kd.R_mono (Kd.R_far (p := ⟨gb1220, 1, none⟩) (Kd.R_far (p := ⟨gb1220, 0, none⟩) (Kd.R_types HO1205.out BK1220.out (by decide)) (fun _ hk => hk.2) (.slice Ao96 t1207.length co96)) (fun _ hk => hk.2) (.slice Ao101 t1210.length co101)) (fun _ h_ => h_.1))) hb) (Kd.R_base ho0)) (Kd.R_base ho1)) (fun _ h_ => h_.1)); have n7_ := Aside0.mk (Kd.R_mono (Kd.R_told (Kd.R_told (Kd.R_old (by (with_reducible repeat (first | apply Kd.R_alloc | apply Kd.R_drewN | apply Kd.R_drew)); exact (Kd.R_mono (Kd.R_far (p := ⟨gb1220, 1, none⟩) (Kd.R_far (p := ⟨gb1220, 0, none⟩) (Kd.R_types HO1209.out BK1220.out (by decide)) (fun _ hk => hk.2) (.slice Ao96 t1207.length co96)) (fun _ hk => hk.2) (.slice Ao101 t1210.length co101)) (fun _ h_ => h_.1))) hb) (Kd.R_base ho0)) (Kd.R_base ho1)) (fun _ h_ => h_.1)); have n8_ := Aside0.mk (Kd.R_mono (Kd.R_told (Kd.R_told (Kd.R_old (by (with_reducible repeat (first | apply Kd.R_alloc | apply Kd.R_drewN | apply Kd.R_drew)); exact (Kd.R_mono (Kd.R_far (p := ⟨gb1220, 1, none⟩) (Kd.R_far (p := ⟨gb1220, 0, none⟩) (Kd.R_types HO1212.out BK1220.out (by decide)) (fun _ hk => hk.2) (.slice Ao96 t1207.length co96)) (fun _ hk => hk.2) (.slice Ao101 t1210.length co101)) (fun _ h_ => h_.1))) hb) (Kd.R_base ho0)) (Kd.R_base ho1)) (fun _ h_ => h_.1)); have n9_ := Aside0.mk (Kd.V_mono (Kd.V_told (Kd.V_told (Kd.V_old (by (with_reducible repeat (first | apply Kd.V_alloc | apply Kd.V_drewN | apply Kd.V_drew)); exact (Kd.V_mono (Kd.V_far (p := ⟨gb1220, 1, none⟩) (Kd.V_far (p := ⟨gb1220, 0, none⟩) (Kd.V_mono HO1215.out (fun k_ hk => (⟨hk, hk.2⟩ : _ ∧ k_ ≠ gb1220))) (fun _ hk => hk.2) (.slice Ao96 t1207.length co96)) (fun _ hk => hk.2) (.slice Ao101 t1210.length co101)) (fun _ h_ => h_.1))) hb) (Kd.R_base ho0)) (Kd.R_base ho1)) (fun _ h_ => h_.1)); have n10_ := Aside0.mk (Kd.N_mono (Kd.N_told (Kd.N_told (Kd.N_old (by (with_reducible repeat (first | apply Kd.N_alloc | apply Kd.N_drewN | apply Kd.N_drew)); exact (Kd.N_mono (Kd.N_far (p := ⟨gb1220, 1, none⟩) (Kd.N_far (p := ⟨gb1220, 0, none⟩) (Kd.N_mono HO1219.out (fun k_ hk => (⟨hk, hk.2⟩ : _ ∧ k_ ≠ gb1220))) (fun _ hk => hk.2) (.slice Ao96 t1207.length co96)) (fun _ hk => hk.2) (.slice Ao101 t1210.length co101)) (fun _ h_ => h_.1))) hb) (Kd.R_base ho0)) (Kd.R_base ho1)) (fun _ h_ => h_.1)); have n11_ := Aside0.mk (Kd.R_lower (Kd.R_new' (Kd.R_new' (Kd.R_new' (Kd.R_new' (Kd.R_new' (Kd.R_new' (Kd.R_new' (Kd.R_new' ho0 (Kd.R_lt (by (with_reducible repeat (first | apply Kd.R_alloc | apply Kd.R_drewN | apply Kd.R_drew)); exact (Kd.R_mono (Kd.R_far (p := ⟨gb1220, 1, none⟩) (Kd.R_far (p := ⟨gb1220, 0, none⟩) (Kd.R_types HO_1162000.out BK1220.out (by decide)) (fun _ hk => hk.2) (.slice Ao96 t1207.length co96)) (fun _ hk => hk.2) (.slice Ao101 t1210.length co101)) (fun _ h_ => h_.1))))) (Kd.R_lt (by (with_reducible repeat (first | apply Kd.R_alloc | apply Kd.R_drewN | apply Kd.R_drew)); exact (Kd.R_mono (Kd.R_far (p := ⟨gb1220, 1, none⟩) (Kd.R_far (p := ⟨gb1220, 0, none⟩) (Kd.R_types HO_1162001.out BK1220.out (by decide)) (fun _ hk => hk.2) (.slice Ao96 t1207.length co96)) (fun _ hk => hk.2) (.slice Ao101 t1210.length co101)) (fun _ h_ => h_.1))))) (Kd.R_lt (by (with_reducible repeat (first | apply Kd.R_alloc | apply Kd.R_drewN | apply Kd.R_drew)); exact (Kd.R_mono (Kd.R_far (p := ⟨gb1220, 1, none⟩) (Kd.R_far (p := ⟨gb1220, 0, none⟩) (Kd.R_types HO1193.out BK1220.out (by decide)) (fun _ hk => hk.2) (.slice Ao96 t1207.length co96)) (fun _ hk => hk.2) (.slice Ao101 t1210.length co101)) (fun _ h_ => h_.1))))) (Kd.R_lt (by (with_reducible repeat (first | apply Kd.R_alloc | apply Kd.R_drewN | apply Kd.R_drew)); exact (Kd.R_mono (Kd.R_far (p := ⟨gb1220, 1, none⟩) (Kd.R_far (p := ⟨gb1220, 0, none⟩) (Kd.R_types HO1196.out BK1220.out (by decide)) (fun _ hk => hk.2) (.slice Ao96 t1207.length co96)) (fun _ hk => hk.2) (.slice Ao101 t1210.length co101)) (fun _ h_ => h_.1))))) (Kd.R_lt (by (with_reducible repeat (first | apply Kd.R_alloc | apply Kd.R_drewN | apply Kd.R_drew)); exact (Kd.R_mono (Kd.R_far (p := ⟨gb1220, 1, none⟩) (Kd.R_far (p := ⟨gb1220, 0, none⟩) (Kd.R_types HO1202.out BK1220.out (by decide)) (fun _ hk => hk.2) (.slice Ao96 t1207.length co96)) (fun _ hk => hk.2) (.slice Ao101 t1210.length co101)) (fun _ h_ => h_.1))))) (Kd.R_lt (by (with_reducible repeat (first | apply Kd.R_alloc | apply Kd.R_drewN | apply Kd.R_drew)); exact (Kd.R_mono (Kd.R_far (p := ⟨gb1220, 1, none⟩) (Kd.R_far (p := ⟨gb1220, 0, none⟩) (Kd.R_types HO1205.out BK1220.out (by decide)) (fun _ hk => hk.2) (.slice Ao96 t1207.length co96)) (fun _ hk => hk.2) (.slice Ao101 t1210.length co101)) (fun _ h_ => h_.1))))) (Kd.R_lt (by (with_reducible repeat (first | apply Kd.R_alloc | apply Kd.R_drewN | apply Kd.R_drew)); exact (Kd.R_mono (Kd.R_far (p := ⟨gb1220, 1, none⟩) (Kd.R_far (p := ⟨gb1220, 0, none⟩) (Kd.R_types HO1209.out BK1220.out (by decide)) (fun _ hk => hk.2) (.slice Ao96 t1207.length co96)) (fun _ hk => hk.2) (.slice Ao101 t1210.length co101)) (fun _ h_ => h_.1))))) (Kd.R_lt (by (with_reducible repeat (first | apply Kd.R_alloc | apply Kd.R_drewN | apply Kd.R_drew)); exact (Kd.R_mono (Kd.R_far (p := ⟨gb1220, 1, none⟩) (Kd.R_far (p := ⟨gb1220, 0, none⟩) (Kd.R_types HO1212.out BK1220.out (by decide)) (fun _ hk => hk.2) (.slice Ao96 t1207.length co96)) (fun _ hk => hk.2) (.slice Ao101 t1210.length co101)) (fun _ h_ => h_.1))))) (below_size (by repeat (first | (with_reducible first | exact HB.out | apply below_alloc | apply pw_below_drewN | apply below_drew1 | refine below_set ?_ GE1161.out | refine below_set ?_ GE1198.out | refine below_set ?_ GE1206.out | refine below_set ?_ GE1220.out) | exact HB.out)))); have n12_ := Aside0.mk (Kd.R_lower (Kd.R_new' (Kd.R_new' (Kd.R_new' (Kd.R_new' (Kd.R_new' (Kd.R_new' (Kd.R_new' (Kd.R_new' ho1 (Kd.R_lt (by (with_reducible repeat (first | apply Kd.R_alloc | apply Kd.R_drewN | apply Kd.R_drew)); exact (Kd.R_mono (Kd.R_far (p := ⟨gb1220, 1, none⟩) (Kd.R_far (p := ⟨gb1220, 0, none⟩) (Kd.R_types HO_1162000.out BK1220.out (by decide)) (fun _ hk => hk.2) (.slice Ao96 t1207.length co96)) (fun _ hk => hk.2) (.slice Ao101 t1210.length co101)) (fun _ h_ => h_.1))))) (Kd.R_lt (by (with_reducible repeat (first | apply Kd.R_alloc | apply Kd.R_drewN | apply Kd.R_drew)); exact (Kd.R_mono (Kd.R_far (p := ⟨gb1220, 1, none⟩) (Kd.R_far (p := ⟨gb1220, 0, none⟩) (Kd.R_types HO_1162001.out BK1220.out (by decide)) (fun _ hk => hk.2) (.slice Ao96 t1207.length co96)) (fun _ hk => hk.2) (.slice Ao101 t1210.length co101)) (fun _ h_ => h_.1))))) (Kd.R_lt (by (with_reducible repeat (first | apply Kd.R_alloc | apply Kd.R_drewN | apply Kd.R_drew)); exact (Kd.R_mono (Kd.R_far (p := ⟨gb1220, 1, none⟩) (Kd.R_far (p := ⟨gb1220, 0, none⟩) (Kd.R_types HO1193.out BK1220.out (by decide)) (fun _ hk => hk.2) (.slice Ao96 t1207.length co96)) (fun _ hk => hk.2) (.slice Ao101 t1210.length co101)) (fun _ h_ => h_.1))))) (Kd.R_lt (by (with_reducible repeat (first | apply Kd.R_alloc | apply Kd.R_drewN | apply Kd.R_drew)); exact (Kd.R_mono (Kd.R_far (p := ⟨gb1220, 1, none⟩) (Kd.R_far (p := ⟨gb1220, 0, none⟩) (Kd.R_types HO1196.out BK1220.out (by decide)) (fun _ hk => hk.2) (.slice Ao96 t1207.length co96)) (fun _ hk => hk.2) (.slice Ao101 t1210.length co101)) (fun _ h_ => h_.1))))) (Kd.R_lt (by (with_reducible repeat (first | apply Kd.R_alloc | apply Kd.R_drewN | apply Kd.R_drew)); exact (Kd.R_mono (Kd.R_far (p := ⟨gb1220, 1, none⟩) (Kd.R_far (p := ⟨gb1220, 0, none⟩) (Kd.R_types HO1202.out BK1220.out (by decide)) (fun _ hk => hk.2) (.slice Ao96 t1207.length co96)) (fun _ hk => hk.2) (.slice Ao101 t1210.length co101)) (fun _ h_ => h_.1))))) (Kd.R_lt (by (with_reducible repeat (first | apply Kd.R_alloc | apply Kd.R_drewN | apply Kd.R_drew)); exact (Kd.R_mono (Kd.R_far (p := ⟨gb1220, 1, none⟩) (Kd.R_far (p := ⟨gb1220, 0, none⟩) (Kd.R_types HO1205.out BK1220.out (by decide)) (fun _ hk => hk.2) (.slice Ao96 t1207.length co96)) (fun _ hk => hk.2) (.slice Ao101 t1210.length co101)) (fun _ h_ => h_.1))))) (Kd.R_lt (by (with_reducible repeat (first | apply Kd.R_alloc | apply Kd.R_drewN | apply Kd.R_drew)); exact (Kd.R_mono (Kd.R_far (p := ⟨gb1220, 1, none⟩) (Kd.R_far (p := ⟨gb1220, 0, none⟩) (Kd.R_types HO1209.out BK1220.out (by decide)) (fun _ hk => hk.2) (.slice Ao96 t1207.length co96)) (fun _ hk => hk.2) (.slice Ao101 t1210.length co101)) (fun _ h_ => h_.1))))) (Kd.R_lt (by (with_reducible repeat (first | apply Kd.R_alloc | apply Kd.R_drewN | apply Kd.R_drew)); exact (Kd.R_mono (Kd.R_far (p := ⟨gb1220, 1, none⟩) (Kd.R_far (p := ⟨gb1220, 0, none⟩) (Kd.R_types HO1212.out BK1220.out (by decide)) (fun _ hk => hk.2) (.slice Ao96 t1207.length co96)) (fun _ hk => hk.2) (.slice Ao101 t1210.length co101)) (fun _ h_ => h_.1))))) (below_size (by repeat (first | (with_reducible first | exact HB.out | apply below_alloc | apply pw_below_drewN | apply below_drew1 | refine below_set ?_ GE1161.out | refine below_set ?_ GE1198.out | refine below_set ?_ GE1206.out | refine below_set ?_ GE1220.out) | exact HB.out)))); have n13_ := Aside0.mk (blk_below (g := gb1161) (o := .cells #[.slice Ao74 x1162000_3.length co74, .slice Ao75 x1162001_3.length co75] 24 (0, 0)) (by (with_reducible repeat (first | refine blk_drewN ?_ _ | refine blk_drew ?_ | refine blk_alloc ?_ _)); refine blk_far ?_ NB1161_1220.out _; (with_reducible repeat (first | refine blk_drewN ?_ _ | refine blk_drew ?_ | refine blk_alloc ?_ _)); refine blk_far ?_ NB1161_1220.out _; (with_reducible repeat (first | refine blk_drewN ?_ _ | refine blk_drew ?_ | refine blk_alloc ?_ _)); exact BK1161.out) hb); have n14_ := Aside0.mk (blk_below (g := gb1198) (o := .cells #[.slice Ao78 t1191.length co78, .slice Ao81 t1194.length co81] 24 (0, 0)) (by (with_reducible repeat (first | refine blk_drewN ?_ _ | refine blk_drew ?_ | refine blk_alloc ?_ _)); refine blk_far ?_ NB1198_1220.out _; (with_reducible repeat (first | refine blk_drewN ?_ _ | refine blk_drew ?_ | refine blk_alloc ?_ _)); refine blk_far ?_ NB1198_1220.out _; (with_reducible repeat (first | refine blk_drewN ?_ _ | refine blk_drew ?_ | refine blk_alloc ?_ _)); exact BK1198.out) hb); have n15_ := Aside0.mk (blk_below (g := gb1206) (o := .cells #[.slice Ao87 t1200.length co87, .slice Ao89 t1203.length co89] 24 (0, 0)) (by (with_reducible repeat (first | refine blk_drewN ?_ _ | refine blk_drew ?_ | refine blk_alloc ?_ _)); refine blk_far ?_ NB1206_1220.out _; (with_reducible repeat (first | refine blk_drewN ?_ _ | refine blk_drew ?_ | refine blk_alloc ?_ _)); refine blk_far ?_ NB1206_1220.out _; (with_reducible repeat (first | refine blk_drewN ?_ _ | refine blk_drew ?_ | refine blk_alloc ?_ _)); exact BK1206.out) hb); have n16_ := Aside0.mk (blk_below (g := gb1220) (o := .cells #[.slice Ao96 t1207.length co96, .slice Ao101 t1210.length co101] 24 (0, 0)) (by (with_reducible repeat (first | refine blk_drewN ?_ _ | refine blk_drew ?_ | refine blk_alloc ?_ _)); refine blk_put (cs := #[.slice Ao96 t1207.length co96, .slice none 0 0]) ?_ 1 _ rfl; (with_reducible repeat (first | refine blk_drewN ?_ _ | refine blk_drew ?_ | refine blk_alloc ?_ _)); refine blk_put (cs := #[.slice none 0 0, .slice none 0 0]) ?_ 0 _ rfl; (with_reducible repeat (first | refine blk_drewN ?_ _ | refine blk_drew ?_ | refine blk_alloc ?_ _)); exact BK1220.out) hb); have n17_ := Aside0.mk (below_step (by repeat (first | (with_reducible first | exact HB.out | apply below_alloc | apply pw_below_drewN | apply below_drew1 | refine below_set ?_ GE1161.out | refine below_set ?_ GE1198.out | refine below_set ?_ GE1206.out | refine below_set ?_ GE1220.out) | exact HB.out)) hb); clear HO_1; clear HO_1162000; clear HO_1162001; clear HO1193; clear HO1196; clear HO1202; clear HO1205; clear HO1209; clear HO1212; clear HO1215; clear HO1219; clear BK1161; clear BK1198; clear BK1206; clear BK1220; clear HB; have HO_1 := n0_; have HO_1162000 := n1_; have HO_1162001 := n2_; have HO1193 := n3_; have HO1196 := n4_; have HO1202 := n5_; have HO1205 := n6_; have HO1209 := n7_; have HO1212 := n8_; have HO1215 := n9_; have HO1219 := n10_; have HO1223 := n11_; have HO1226 := n12_; have BK1161 := n13_; have BK1198 := n14_; have BK1206 := n15_; have BK1220 := n16_; have HB := n17_; clear n0_ n1_ n2_ n3_ n4_ n5_ n6_ n7_ n8_ n9_ n10_ n11_ n12_ n13_ n14_ n15_ n16_ n17_; (try clear hb); (try clear hb2); (try clear hk); (try clear hi); (try clear ho0); (try clear ho1); obtain ⟨Ao104, co104, eo104⟩ := Kd.R_slice HO1223.out; subst eo104; obtain ⟨Ao105, co105, eo105⟩ := Kd.R_slice HO1226.out; subst eo105) | ((with_reducible refine gate_callee (f := 61) rfl ?_); refine goesL_ (some 102) rfl rfl Try.func61 (by kernel_rfl) rfl #[.agg #[.slice Ao104 t1221.length co104, .slice Ao105 t1224.length co105]] rfl (by (try simp only [List.map_toArray, List.map_cons, List.map_nil]); first | done | rfl | (simp only [List.length_drop, List.length_take]; rfl)) ?_; (with_reducible refine (journal_Open.calls k3 _ _ t1221 _ _ t1224 t1227 t1230 t1233 true t1237 _ ?side1 ?side2 ?side3 ?side4 A59.out).mono ?_); (case side1 => repeat (first | exact (Kd.R_reads' HO1223.out).2.2 | (with_reducible refine Kd.C_alloc ?_ _) | (with_reducible refine Kd.C_drewN ?_ _) | (with_reducible refine Kd.C_drew ?_))); (case side2 => exact (Kd.R_reads' HO1223.out).2.1); (case side3 => repeat (first | exact (Kd.R_reads' HO1226.out).2.2 | (with_reducible refine Kd.C_alloc ?_ _) | (with_reducible refine Kd.C_drewN ?_ _) | (with_reducible refine Kd.C_drew ?_))); (case side4 => exact (Kd.R_reads' HO1226.out).2.1); rintro e w106 ⟨v1228, v1231, v1234, v1238, rfl, ho0, ho1, ho2, ho3, hb⟩; refine ⟨_, rfl, ?_⟩; have n0_ := Aside0.mk (Kd.N_mono (Kd.N_told (Kd.N_told (Kd.N_told (Kd.N_old (by (with_reducible repeat (first | apply Kd.N_alloc | apply Kd.N_drewN | apply Kd.N_drew)); exact HO_1.out) hb) (Kd.R_base ho0)) (Kd.R_base ho1)) (Kd.N_base ho3)) (fun _ h_ => h_.1)); have n1_ := Aside0.mk (Kd.R_mono (Kd.R_told (Kd.R_told (Kd.R_old (by (with_reducible repeat (first | apply Kd.R_alloc | apply Kd.R_drewN | apply Kd.R_drew)); exact HO_1162000.out) hb) (Kd.R_base ho0)) (Kd.R_base ho1)) (fun _ h_ => h_.1)); have n2_ := Aside0.mk (Kd.R_mono (Kd.R_told (Kd.R_told (Kd.R_old (by (with_reducible repeat (first | apply Kd.R_alloc | apply Kd.R_drewN | apply Kd.R_drew)); exact HO_1162001.out) hb) (Kd.R_base ho0)) (Kd.R_base ho1)) (fun _ h_ => h_.1)); have n3_ := Aside0.mk (Kd.R_mono (Kd.R_told (Kd.R_told (Kd.R_old (by (with_reducible repeat (first | apply Kd.R_alloc | apply Kd.R_drewN | apply Kd.R_drew)); exact HO1193.out) hb) (Kd.R_base ho0)) (Kd.R_base ho1)) (fun _ h_ => h_.1)); have n4_ := Aside0.mk (Kd.R_mono (Kd.R_told (Kd.R_told (Kd.R_old (by (with_reducible repeat (first | apply Kd.R_alloc | apply Kd.R_drewN | apply Kd.R_drew)); exact HO1196.out) hb) (Kd.R_base ho0)) (Kd.R_base ho1)) (fun _ h_ => h_.1)); have n5_ := Aside0.mk (Kd.R_mono (Kd.R_told (Kd.R_told (Kd.R_old (by (with_reducible repeat (first | apply Kd.R_alloc | apply Kd.R_drewN | apply Kd.R_drew)); exact HO1202.out) hb) (Kd.R_base ho0)) (Kd.R_base ho1)) (fun _ h_ => h_.1)); have n6_ := Aside0.mk (Kd.R_mono (Kd.R_told (Kd.R_told (Kd.R_old (by (with_reducible repeat (first | apply Kd.R_alloc | apply Kd.R_drewN | apply Kd.R_drew)); exact HO1205.out) hb) (Kd.R_base ho0)) (Kd.R_base ho1)) (fun _ h_ => h_.1)); have n7_ := Aside0.mk (Kd.R_mono (Kd.R_told (Kd.R_told (Kd.R_old (by (with_reducible repeat (first | apply Kd.R_alloc | apply Kd.R_drewN | apply Kd.R_drew)); exact HO1209.out) hb) (Kd.R_base ho0)) (Kd.R_base ho1)) (fun _ h_ => h_.1)); have n8_ := Aside0.mk (Kd.R_mono (Kd.R_told (Kd.R_told (Kd.R_old (by (with_reducible repeat (first | apply Kd.R_alloc | apply Kd.R_drewN | apply Kd.R_drew)); exact HO1212.out) hb) (Kd.R_base ho0)) (Kd.R_base ho1)) (fun _ h_ => h_.1)); have n9_ := Aside0.mk (Kd.V_mono (Kd.V_told (Kd.V_told (Kd.V_told (Kd.V_old (by (with_reducible repeat (first | apply Kd.V_alloc | apply Kd.V_drewN | apply Kd.V_drew)); exact HO1215.out) hb) (Kd.R_base ho0)) (Kd.R_base ho1)) (Kd.N_base ho3)) (fun _ h_ => h_.1)); have n10_ := Aside0.mk (Kd.N_mono (Kd.N_told (Kd.N_told (Kd.N_told (Kd.N_old (by (with_reducible repeat (first | apply Kd.N_alloc | apply Kd.N_drewN | apply Kd.N_drew)); exact HO1219.out) hb) (Kd.R_base ho0)) (Kd.R_base ho1)) (Kd.N_base ho3)) (fun _ h_ => h_.1)); have n11_ := Aside0.mk (Kd.R_mono (Kd.R_told (Kd.R_told (Kd.R_old (by (with_reducible repeat (first | apply Kd.R_alloc | apply Kd.R_drewN | apply Kd.R_drew)); exact HO1223.out) hb) (Kd.R_base ho0)) (Kd.R_base ho1)) (fun _ h_ => h_.1)); have n12_ := Aside0.mk (Kd.R_mono (Kd.R_told (Kd.R_told (Kd.R_old (by (with_reducible repeat (first | apply Kd.R_alloc | apply Kd.R_drewN | apply Kd.R_drew)); exact HO1226.out) hb) (Kd.R_base ho0)) (Kd.R_base ho1)) (fun _ h_ => h_.1)); have n13_ := Aside0.mk (Kd.R_lower (Kd.R_new' (Kd.R_new' (Kd.R_new' (Kd.R_new' (Kd.R_new' (Kd.R_new' (Kd.R_new' (Kd.R_new' (Kd.R_new' (Kd.R_new' (Kd.R_mono (ok' := fun k_ => some k_ ≠ (v1231 : Value).ownBlock) ho0 (fun _ hk_ => hk_.2)) (Kd.R_lt (by (with_reducible repeat (first | apply Kd.R_alloc | apply Kd.R_drewN | apply Kd.R_drew)); exact HO_1162000.out))) (Kd.R_lt (by (with_reducible repeat (first | apply Kd.R_alloc | apply Kd.R_drewN | apply Kd.R_drew)); exact HO_1162001.out))) (Kd.R_lt (by (with_reducible repeat (first | apply Kd.R_alloc | apply Kd.R_drewN | apply Kd.R_drew)); exact HO1193.out))) (Kd.R_lt (by (with_reducible repeat (first | apply Kd.R_alloc | apply Kd.R_drewN | apply Kd.R_drew)); exact HO1196.out))) (Kd.R_lt (by (with_reducible repeat (first | apply Kd.R_alloc | apply Kd.R_drewN | apply Kd.R_drew)); exact HO1202.out))) (Kd.R_lt (by (with_reducible repeat (first | apply Kd.R_alloc | apply Kd.R_drewN | apply Kd.R_drew)); exact HO1205.out))) (Kd.R_lt (by (with_reducible repeat (first | apply Kd.R_alloc | apply Kd.R_drewN | apply Kd.R_drew)); exact HO1209.out))) (Kd.R_lt (by (with_reducible repeat (first | apply Kd.R_alloc | apply Kd.R_drewN | apply Kd.R_drew)); exact HO1212.out))) (Kd.R_lt (by (with_reducible repeat (first | apply Kd.R_alloc | apply Kd.R_drewN | apply Kd.R_drew)); exact HO1223.out))) (Kd.R_lt (by (with_reducible repeat (first | apply Kd.R_alloc | apply Kd.R_drewN | apply Kd.R_drew)); exact HO1226.out))) (below_size (by repeat (first | (with_reducible first | exact HB.out | apply below_alloc | apply pw_below_drewN | apply below_drew1 | refine below_set ?_ GE1161.out | refine below_set ?_ GE1198.out | refine below_set ?_ GE1206.out | refine below_set ?_ GE1220.out) | exact HB.out)))); have n14_ := Aside0.mk (Kd.R_lower (Kd.R_new' (Kd.R_new' (Kd.R_new' (Kd.R_new' (Kd.R_new' (Kd.R_new' (Kd.R_new' (Kd.R_new' (Kd.R_new' (Kd.R_new' (Kd.R_mono (ok' := fun k_ => some k_ ≠ (v1228 : Value).ownBlock) ho1 (fun _ hk_ => hk_.2)) (Kd.R_lt (by (with_reducible repeat (first | apply Kd.R_alloc | apply Kd.R_drewN | apply Kd.R_drew)); exact HO_1162000.out))) (Kd.R_lt (by (with_reducible repeat (first | apply Kd.R_alloc | apply Kd.R_drewN | apply Kd.R_drew)); exact HO_1162001.out))) (Kd.R_lt (by (with_reducible repeat (first | apply Kd.R_alloc | apply Kd.R_drewN | apply Kd.R_drew)); exact HO1193.out))) (Kd.R_lt (by (with_reducible repeat (first | apply Kd.R_alloc | apply Kd.R_drewN | apply Kd.R_drew)); exact HO1196.out))) (Kd.R_lt (by (with_reducible repeat (first | apply Kd.R_alloc | apply Kd.R_drewN | apply Kd.R_drew)); exact HO1202.out))) (Kd.R_lt (by (with_reducible repeat (first | apply Kd.R_alloc | apply Kd.R_drewN | apply Kd.R_drew)); exact HO1205.out))) (Kd.R_lt (by (with_reducible repeat (first | apply Kd.R_alloc | apply Kd.R_drewN | apply Kd.R_drew)); exact HO1209.out))) (Kd.R_lt (by (with_reducible repeat (first | apply Kd.R_alloc | apply Kd.R_drewN | apply Kd.R_drew)); exact HO1212.out))) (Kd.R_lt (by (with_reducible repeat (first | apply Kd.R_alloc | apply Kd.R_drewN | apply Kd.R_drew)); exact HO1223.out))) (Kd.R_lt (by (with_reducible repeat (first | apply Kd.R_alloc | apply Kd.R_drewN | apply Kd.R_drew)); exact HO1226.out))) (below_size (by repeat (first | (with_reducible first | exact HB.out | apply below_alloc | apply pw_below_drewN | apply below_drew1 | refine below_set ?_ GE1161.out | refine below_set ?_ GE1198.out | refine below_set ?_ GE1206.out | refine below_set ?_ GE1220.out) | exact HB.out)))); have n15_ := Aside0.mk (Kd.V_lower (Kd.V_mono (ok' := fun k_ => some k_ ≠ (v1228 : Value).ownBlock ∧ some k_ ≠ (v1231 : Value).ownBlock ∧ some k_ ≠ (v1238 : Value).ownBlock ∧ some k_ ≠ (.slice Ao72 t1157.length co72 : Value).ownBlock ∧ some k_ ≠ (.slice Ao74 x1162000_3.length co74 : Value).ownBlock ∧ some k_ ≠ (.slice Ao75 x1162001_3.length co75 : Value).ownBlock ∧ some k_ ≠ (.slice Ao78 t1191.length co78 : Value).ownBlock ∧ some k_ ≠ (.slice Ao81 t1194.length co81 : Value).ownBlock ∧ some k_ ≠ (.slice Ao87 t1200.length co87 : Value).ownBlock ∧ some k_ ≠ (.slice Ao89 t1203.length co89 : Value).ownBlock ∧ some k_ ≠ (.slice Ao96 t1207.length co96 : Value).ownBlock ∧ some k_ ≠ (.slice Ao101 t1210.length co101 : Value).ownBlock ∧ some k_ ≠ (v1218 : Value).ownBlock ∧ some k_ ≠ (.slice Ao104 t1221.length co104 : Value).ownBlock ∧ some k_ ≠ (.slice Ao105 t1224.length co105 : Value).ownBlock ∧ k_ ≠ gb1161 ∧ k_ ≠ gb1198 ∧ k_ ≠ gb1206 ∧ k_ ≠ gb1220) ho2 (fun k_ hk_ => ⟨hk_.2.1, hk_.2.2.1, hk_.2.2.2, (Kd.fresh' (Kd.N_lt (by (with_reducible repeat (first | apply Kd.N_alloc | apply Kd.N_drewN | apply Kd.N_drew)); exact HO_1.out)) k_ hk_.1), (Kd.fresh' (Kd.R_lt (by (with_reducible repeat (first | apply Kd.R_alloc | apply Kd.R_drewN | apply Kd.R_drew)); exact HO_1162000.out)) k_ hk_.1), (Kd.fresh' (Kd.R_lt (by (with_reducible repeat (first | apply Kd.R_alloc | apply Kd.R_drewN | apply Kd.R_drew)); exact HO_1162001.out)) k_ hk_.1), (Kd.fresh' (Kd.R_lt (by (with_reducible repeat (first | apply Kd.R_alloc | apply Kd.R_drewN | apply Kd.R_drew)); exact HO1193.out)) k_ hk_.1), (Kd.fresh' (Kd.R_lt (by (with_reducible repeat (first | apply Kd.R_alloc | apply Kd.R_drewN | apply Kd.R_drew)); exact HO1196.out)) k_ hk_.1), (Kd.fresh' (Kd.R_lt (by (with_reducible repeat (first | apply Kd.R_alloc | apply Kd.R_drewN | apply Kd.R_drew)); exact HO1202.out)) k_ hk_.1), (Kd.fresh' (Kd.R_lt (by (with_reducible repeat (first | apply Kd.R_alloc | apply Kd.R_drewN | apply Kd.R_drew)); exact HO1205.out)) k_ hk_.1), (Kd.fresh' (Kd.R_lt (by (with_reducible repeat (first | apply Kd.R_alloc | apply Kd.R_drewN | apply Kd.R_drew)); exact HO1209.out)) k_ hk_.1), (Kd.fresh' (Kd.R_lt (by (with_reducible repeat (first | apply Kd.R_alloc | apply Kd.R_drewN | apply Kd.R_drew)); exact HO1212.out)) k_ hk_.1), (Kd.fresh' (Kd.N_lt (by (with_reducible repeat (first | apply Kd.N_alloc | apply Kd.N_drewN | apply Kd.N_drew)); exact HO1219.out)) k_ hk_.1), (Kd.fresh' (Kd.R_lt (by (with_reducible repeat (first | apply Kd.R_alloc | apply Kd.R_drewN | apply Kd.R_drew)); exact HO1223.out)) k_ hk_.1), (Kd.fresh' (Kd.R_lt (by (with_reducible repeat (first | apply Kd.R_alloc | apply Kd.R_drewN | apply Kd.R_drew)); exact HO1226.out)) k_ hk_.1), (Kd.freshB (g := gb1161) (o := .cells #[.slice Ao74 x1162000_3.length co74, .slice Ao75 x1162001_3.length co75] 24 (0, 0)) (by (with_reducible repeat (first | refine blk_drewN ?_ _ | refine blk_drew ?_ | refine blk_alloc ?_ _)); exact BK1161.out) k_ hk_.1), (Kd.freshB (g := gb1198) (o := .cells #[.slice Ao78 t1191.length co78, .slice Ao81 t1194.length co81] 24 (0, 0)) (by (with_reducible repeat (first | refine blk_drewN ?_ _ | refine blk_drew ?_ | refine blk_alloc ?_ _)); exact BK1198.out) k_ hk_.1), (Kd.freshB (g := gb1206) (o := .cells #[.slice Ao87 t1200.length co87, .slice Ao89 t1203.length co89] 24 (0, 0)) (by (with_reducible repeat (first | refine blk_drewN ?_ _ | refine blk_drew ?_ | refine blk_alloc ?_ _)); exact BK1206.out) k_ hk_.1), (Kd.freshB (g := gb1220) (o := .cells #[.slice Ao96 t1207.length co96, .slice Ao101 t1210.length co101] 24 (0, 0)) (by (with_reducible repeat (first | refine blk_drewN ?_ _ | refine blk_drew ?_ | refine blk_alloc ?_ _)); exact BK1220.out) k_ hk_.1)⟩)) (below_size (by repeat (first | (with_reducible first | exact HB.out | apply below_alloc | apply pw_below_drewN | apply below_drew1 | refine below_set ?_ GE1161.out | refine below_set ?_ GE1198.out | refine below_set ?_ GE1206.out | refine below_set ?_ GE1220.out) | exact HB.out)))); have n16_ := Aside0.mk (Kd.N_lower (Kd.N_mono (ok' := fun k_ => some k_ ≠ (v1228 : Value).ownBlock ∧ some k_ ≠ (v1231 : Value).ownBlock ∧ some k_ ≠ (.slice Ao72 t1157.length co72 : Value).ownBlock ∧ some k_ ≠ (.slice Ao74 x1162000_3.length co74 : Value).ownBlock ∧ some k_ ≠ (.slice Ao75 x1162001_3.length co75 : Value).ownBlock ∧ some k_ ≠ (.slice Ao78 t1191.length co78 : Value).ownBlock ∧ some k_ ≠ (.slice Ao81 t1194.length co81 : Value).ownBlock ∧ some k_ ≠ (.slice Ao87 t1200.length co87 : Value).ownBlock ∧ some k_ ≠ (.slice Ao89 t1203.length co89 : Value).ownBlock ∧ some k_ ≠ (.slice Ao96 t1207.length co96 : Value).ownBlock ∧ some k_ ≠ (.slice Ao101 t1210.length co101 : Value).ownBlock ∧ some k_ ≠ (v1218 : Value).ownBlock ∧ some k_ ≠ (.slice Ao104 t1221.length co104 : Value).ownBlock ∧ some k_ ≠ (.slice Ao105 t1224.length co105 : Value).ownBlock ∧ k_ ≠ gb1161 ∧ k_ ≠ gb1198 ∧ k_ ≠ gb1206 ∧ k_ ≠ gb1220) ho3 (fun k_ hk_ => ⟨hk_.2.1, hk_.2.2, (Kd.fresh' (Kd.N_lt (by (with_reducible repeat (first | apply Kd.N_alloc | apply Kd.N_drewN | apply Kd.N_drew)); exact HO_1.out)) k_ hk_.1), (Kd.fresh' (Kd.R_lt (by (with_reducible repeat (first | apply Kd.R_alloc | apply Kd.R_drewN | apply Kd.R_drew)); exact HO_1162000.out)) k_ hk_.1), (Kd.fresh' (Kd.R_lt (by (with_reducible repeat (first | apply Kd.R_alloc | apply Kd.R_drewN | apply Kd.R_drew)); exact HO_1162001.out)) k_ hk_.1), (Kd.fresh' (Kd.R_lt (by (with_reducible repeat (first | apply Kd.R_alloc | apply Kd.R_drewN | apply Kd.R_drew)); exact HO1193.out)) k_ hk_.1), (Kd.fresh' (Kd.R_lt (by (with_reducible repeat (first | apply Kd.R_alloc | apply Kd.R_drewN | apply Kd.R_drew)); exact HO1196.out)) k_ hk_.1), (Kd.fresh' (Kd.R_lt (by (with_reducible repeat (first | apply Kd.R_alloc | apply Kd.R_drewN | apply Kd.R_drew)); exact HO1202.out)) k_ hk_.1), (Kd.fresh' (Kd.R_lt (by (with_reducible repeat (first | apply Kd.R_alloc | apply Kd.R_drewN | apply Kd.R_drew)); exact HO1205.out)) k_ hk_.1), (Kd.fresh' (Kd.R_lt (by (with_reducible repeat (first | apply Kd.R_alloc | apply Kd.R_drewN | apply Kd.R_drew)); exact HO1209.out)) k_ hk_.1), (Kd.fresh' (Kd.R_lt (by (with_reducible repeat (first | apply Kd.R_alloc | apply Kd.R_drewN | apply Kd.R_drew)); exact HO1212.out)) k_ hk_.1), (Kd.fresh' (Kd.N_lt (by (with_reducible repeat (first | apply Kd.N_alloc | apply Kd.N_drewN | apply Kd.N_drew)); exact HO1219.out)) k_ hk_.1), (Kd.fresh' (Kd.R_lt (by (with_reducible repeat (first | apply Kd.R_alloc | apply Kd.R_drewN | apply Kd.R_drew)); exact HO1223.out)) k_ hk_.1), (Kd.fresh' (Kd.R_lt (by (with_reducible repeat (first | apply Kd.R_alloc | apply Kd.R_drewN | apply Kd.R_drew)); exact HO1226.out)) k_ hk_.1), (Kd.freshB (g := gb1161) (o := .cells #[.slice Ao74 x1162000_3.length co74, .slice Ao75 x1162001_3.length co75] 24 (0, 0)) (by (with_reducible repeat (first | refine blk_drewN ?_ _ | refine blk_drew ?_ | refine blk_alloc ?_ _)); exact BK1161.out) k_ hk_.1), (Kd.freshB (g := gb1198) (o := .cells #[.slice Ao78 t1191.length co78, .slice Ao81 t1194.length co81] 24 (0, 0)) (by (with_reducible repeat (first | refine blk_drewN ?_ _ | refine blk_drew ?_ | refine blk_alloc ?_ _)); exact BK1198.out) k_ hk_.1), (Kd.freshB (g := gb1206) (o := .cells #[.slice Ao87 t1200.length co87, .slice Ao89 t1203.length co89] 24 (0, 0)) (by (with_reducible repeat (first | refine blk_drewN ?_ _ | refine blk_drew ?_ | refine blk_alloc ?_ _)); exact BK1206.out) k_ hk_.1), (Kd.freshB (g := gb1220) (o := .cells #[.slice Ao96 t1207.length co96, .slice Ao101 t1210.length co101] 24 (0, 0)) (by (with_reducible repeat (first | refine blk_drewN ?_ _ | refine blk_drew ?_ | refine blk_alloc ?_ _)); exact BK1220.out) k_ hk_.1)⟩)) (below_size (by repeat (first | (with_reducible first | exact HB.out | apply below_alloc | apply pw_below_drewN | apply below_drew1 | refine below_set ?_ GE1161.out | refine below_set ?_ GE1198.out | refine below_set ?_ GE1206.out | refine below_set ?_ GE1220.out) | exact HB.out)))); have n17_ := Aside0.mk (blk_below (g := gb1161) (o := .cells #[.slice Ao74 x1162000_3.length co74, .slice Ao75 x1162001_3.length co75] 24 (0, 0)) (by (with_reducible repeat (first | refine blk_drewN ?_ _ | refine blk_drew ?_ | refine blk_alloc ?_ _)); exact BK1161.out) hb); have n18_ := Aside0.mk (blk_below (g := gb1198) (o := .cells #[.slice Ao78 t1191.length co78, .slice Ao81 t1194.length co81] 24 (0, 0)) (by (with_reducible repeat (first | refine blk_drewN ?_ _ | refine blk_drew ?_ | refine blk_alloc ?_ _)); exact BK1198.out) hb); have n19_ := Aside0.mk (blk_below (g := gb1206) (o := .cells #[.slice Ao87 t1200.length co87, .slice Ao89 t1203.length co89] 24 (0, 0)) (by (with_reducible repeat (first | refine blk_drewN ?_ _ | refine blk_drew ?_ | refine blk_alloc ?_ _)); exact BK1206.out) hb); have n20_ := Aside0.mk (blk_below (g := gb1220) (o := .cells #[.slice Ao96 t1207.length co96, .slice Ao101 t1210.length co101] 24 (0, 0)) (by (with_reducible repeat (first | refine blk_drewN ?_ _ | refine blk_drew ?_ | refine blk_alloc ?_ _)); exact BK1220.out) hb); have n21_ := Aside0.mk (below_step (by repeat (first | (with_reducible first | exact HB.out | apply below_alloc | apply pw_below_drewN | apply below_drew1 | refine below_set ?_ GE1161.out | refine below_set ?_ GE1198.out | refine below_set ?_ GE1206.out | refine below_set ?_ GE1220.out) | exact HB.out)) hb); clear HO_1; clear HO_1162000; clear HO_1162001; clear HO1193; clear HO1196; clear HO1202; clear HO1205; clear HO1209; clear HO1212; clear HO1215; clear HO1219; clear HO1223; clear HO1226; clear BK1161; clear BK1198; clear BK1206; clear BK1220; clear HB; have HO_1 := n0_; have HO_1162000 := n1_; have HO_1162001 := n2_; have HO1193 := n3_; have HO1196 := n4_; have HO1202 := n5_; have HO1205 := n6_; have HO1209 := n7_; have HO1212 := n8_; have HO1215 := n9_; have HO1219 := n10_; have HO1223 := n11_; have HO1226 := n12_; have HO1229 := n13_; have HO1232 := n14_; have HO1235 := n15_; have HO1239 := n16_; have BK1161 := n17_; have BK1198 := n18_; have BK1206 := n19_; have BK1220 := n20_; have HB := n21_; clear n0_ n1_ n2_ n3_ n4_ n5_ n6_ n7_ n8_ n9_ n10_ n11_ n12_ n13_ n14_ n15_ n16_ n17_ n18_ n19_ n20_ n21_; (try clear hb); (try clear hb2); (try clear hk); (try clear hi); (try clear ho0); (try clear ho1); (try clear ho2); (try clear ho3)) | ((with_reducible refine gate_dst (N := 22) rfl ?_); (try (refine gate_guard (by rfl) ?_; dsimp only)); refine box_event ?hg (N := 22) ?hd (cs := #[.slice none 0 0, .slice none 0 0]) (t := 24) ?hr ?_; (case hd => rfl); (case hg => rfl); (case hr => first | (go_simp; done) | (go_simp; rfl)); intro gb1240 hg w107 hbox hb; have n0_ := Aside0.mk (Kd.N_below (Kd.N_elderB (by (with_reducible repeat (first | apply Kd.N_alloc | apply Kd.N_drewN | apply Kd.N_drew)); exact HO_1.out) gb1240 (Nat.le_of_eq hg.symm)) hb); have n1_ := Aside0.mk (Kd.R_below (by (with_reducible repeat (first | apply Kd.R_alloc | apply Kd.R_drewN | apply Kd.R_drew)); exact HO_1162000.out) hb); have n2_ := Aside0.mk (Kd.R_below (by (with_reducible repeat (first | apply Kd.R_alloc | apply Kd.R_drewN | apply Kd.R_drew)); exact HO_1162001.out) hb); have n3_ := Aside0.mk (Kd.R_below (by (with_reducible repeat (first | apply Kd.R_alloc | apply Kd.R_drewN | apply Kd.R_drew)); exact HO1193.out) hb); have n4_ := Aside0.mk (Kd.R_below (by (with_reducible repeat (first | apply Kd.R_alloc | apply Kd.R_drewN | apply Kd.R_drew)); exact HO1196.out) hb); have n5_ := Aside0.mk (Kd.R_below (by (with_reducible repeat (first | apply Kd.R_alloc | apply Kd.R_drewN | apply Kd.R_drew)); exact HO1202.out) hb); have n6_ := Aside0.mk (Kd.R_below (by (with_reducible repeat (first | apply Kd.R_alloc | apply Kd.R_drewN | apply Kd.R_drew)); exact HO1205.out) hb); have n7_ := Aside0.mk (Kd.R_below (by (with_reducible repeat (first | apply Kd.R_alloc | apply Kd.R_drewN | apply Kd.R_drew)); exact HO1209.out) hb); have n8_ := Aside0.mk (Kd.R_below (by (with_reducible repeat (first | apply Kd.R_alloc | apply Kd.R_drewN | apply Kd.R_drew)); exact HO1212.out) hb); have n9_ := Aside0.mk (Kd.V_below (Kd.V_elderB (by (with_reducible repeat (first | apply Kd.V_alloc | apply Kd.V_drewN | apply Kd.V_drew)); exact HO1215.out) gb1240 (Nat.le_of_eq hg.symm)) hb); have n10_ := Aside0.mk (Kd.N_below (Kd.N_elderB (by (with_reducible repeat (first | apply Kd.N_alloc | apply Kd.N_drewN | apply Kd.N_drew)); exact HO1219.out) gb1240 (Nat.le_of_eq hg.symm)) hb); have n11_ := Aside0.mk (Kd.R_below (by (with_reducible repeat (first | apply Kd.R_alloc | apply Kd.R_drewN | apply Kd.R_drew)); exact HO1223.out) hb); have n12_ := Aside0.mk (Kd.R_below (by (with_reducible repeat (first | apply Kd.R_alloc | apply Kd.R_drewN | apply Kd.R_drew)); exact HO1226.out) hb); have n13_ := Aside0.mk (Kd.R_below (by (with_reducible repeat (first | apply Kd.R_alloc | apply Kd.R_drewN | apply Kd.R_drew)); exact HO1229.out) hb); have n14_ := Aside0.mk (Kd.R_below (by (with_reducible repeat (first | apply Kd.R_alloc | apply Kd.R_drewN | apply Kd.R_drew)); exact HO1232.out) hb); have n15_ := Aside0.mk (Kd.V_below (Kd.V_elderB (by (with_reducible repeat (first | apply Kd.V_alloc | apply Kd.V_drewN | apply Kd.V_drew)); exact HO1235.out) gb1240 (Nat.le_of_eq hg.symm)) hb); have n16_ := Aside0.mk (Kd.N_below (Kd.N_elderB (by (with_reducible repeat (first | apply Kd.N_alloc | apply Kd.N_drewN | apply Kd.N_drew)); exact HO1239.out) gb1240 (Nat.le_of_eq hg.symm)) hb); have n17_ := Aside0.mk (blk_below (g := gb1161) (o := .cells #[.slice Ao74 x1162000_3.length co74, .slice Ao75 x1162001_3.length co75] 24 (0, 0)) (by (with_reducible repeat (first | refine blk_drewN ?_ _ | refine blk_drew ?_ | refine blk_alloc ?_ _)); exact BK1161.out) hb); have n18_ := Aside0.mk (blk_below (g := gb1198) (o := .cells #[.slice Ao78 t1191.length co78, .slice Ao81 t1194.length co81] 24 (0, 0)) (by (with_reducible repeat (first | refine blk_drewN ?_ _ | refine blk_drew ?_ | refine blk_alloc ?_ _)); exact BK1198.out) hb); have n19_ := Aside0.mk (blk_below (g := gb1206) (o := .cells #[.slice Ao87 t1200.length co87, .slice Ao89 t1203.length co89] 24 (0, 0)) (by (with_reducible repeat (first | refine blk_drewN ?_ _ | refine blk_drew ?_ | refine blk_alloc ?_ _)); exact BK1206.out) hb); have n20_ := Aside0.mk (blk_below (g := gb1220) (o := .cells #[.slice Ao96 t1207.length co96, .slice Ao101 t1210.length co101] 24 (0, 0)) (by (with_reducible repeat (first | refine blk_drewN ?_ _ | refine blk_drew ?_ | refine blk_alloc ?_ _)); exact BK1220.out) hb); have n21_ := Aside0.mk (below_step (by repeat (first | (with_reducible first | exact HB.out | apply below_alloc | apply pw_below_drewN | apply below_drew1 | refine below_set ?_ GE1161.out | refine below_set ?_ GE1198.out | refine below_set ?_ GE1206.out | refine below_set ?_ GE1220.out) | exact HB.out)) hb); have n22_ := Aside0.mk (hbox); have n23_ := Aside0.mk ((by rw [hg]; exact (below_size (by repeat (first | (with_reducible first | exact HB.out | apply below_alloc | apply pw_below_drewN | apply below_drew1 | refine below_set ?_ GE1161.out | refine below_set ?_ GE1198.out | refine below_set ?_ GE1206.out | refine below_set ?_ GE1220.out) | exact HB.out))) : w.heap.size ≤ gb1240)); have n24_ := Aside0.mk ((by rw [hg]; exact (below_size (by repeat (first | (with_reducible first | exact HB.out | apply below_alloc | apply pw_below_drewN | apply below_drew1 | refine below_set ?_ GE1161.out | refine below_set ?_ GE1198.out | refine below_set ?_ GE1206.out | refine below_set ?_ GE1220.out) | exact HB.out))) : w.heap.size ≤ gb1240)); have n25_ := Aside0.mk ((by rw [hg]; exact Nat.ne_of_lt (blk_lt (g := gb1161) (o := .cells #[.slice Ao74 x1162000_3.length co74, .slice Ao75 x1162001_3.length co75] 24 (0, 0)) (by (with_reducible repeat (first | refine blk_drewN ?_ _ | refine blk_drew ?_ | refine blk_alloc ?_ _)); exact BK1161.out)) : gb1161 ≠ gb1240)); have n26_ := Aside0.mk ((by rw [hg]; exact Nat.ne_of_gt (blk_lt (g := gb1161) (o := .cells #[.slice Ao74 x1162000_3.length co74, .slice Ao75 x1162001_3.length co75] 24 (0, 0)) (by (with_reducible repeat (first | refine blk_drewN ?_ _ | refine blk_drew ?_ | refine blk_alloc ?_ _)); exact BK1161.out)) : gb1240 ≠ gb1161)); have n27_ := Aside0.mk ((by rw [hg]; exact Nat.ne_of_lt (blk_lt (g := gb1198) (o := .cells #[.slice Ao78 t1191.length co78, .slice Ao81 t1194.length co81] 24 (0, 0)) (by (with_reducible repeat (first | refine blk_drewN ?_ _ | refine blk_drew ?_ | refine blk_alloc ?_ _)); exact BK1198.out)) : gb1198 ≠ gb1240)); have n28_ := Aside0.mk ((by rw [hg]; exact Nat.ne_of_gt (blk_lt (g := gb1198) (o := .cells #[.slice Ao78 t1191.length co78, .slice Ao81 t1194.length co81] 24 (0, 0)) (by (with_reducible repeat (first | refine blk_drewN ?_ _ | refine blk_drew ?_ | refine blk_alloc ?_ _)); exact BK1198.out)) : gb1240 ≠ gb1198)); have n29_ := Aside0.mk ((by rw [hg]; exact Nat.ne_of_lt (blk_lt (g := gb1206) (o := .cells #[.slice Ao87 t1200.length co87, .slice Ao89 t1203.length co89] 24 (0, 0)) (by (with_reducible repeat (first | refine blk_drewN ?_ _ | refine blk_drew ?_ | refine blk_alloc ?_ _)); exact BK1206.out)) : gb1206 ≠ gb1240)); have n30_ := Aside0.mk ((by rw [hg]; exact Nat.ne_of_gt (blk_lt (g := gb1206) (o := .cells #[.slice Ao87 t1200.length co87, .slice Ao89 t1203.length co89] 24 (0, 0)) (by (with_reducible repeat (first | refine blk_drewN ?_ _ | refine blk_drew ?_ | refine blk_alloc ?_ _)); exact BK1206.out)) : gb1240 ≠ gb1206)); have n31_ := Aside0.mk ((by rw [hg]; exact Nat.ne_of_lt (blk_lt (g := gb1220) (o := .cells #[.slice Ao96 t1207.length co96, .slice Ao101 t1210.length co101] 24 (0, 0)) (by (with_reducible repeat (first | refine blk_drewN ?_ _ | refine blk_drew ?_ | refine blk_alloc ?_ _)); exact BK1220.out)) : gb1220 ≠ gb1240)); have n32_ := Aside0.mk ((by rw [hg]; exact Nat.ne_of_gt (blk_lt (g := gb1220) (o := .cells #[.slice Ao96 t1207.length co96, .slice Ao101 t1210.length co101] 24 (0, 0)) (by (with_reducible repeat (first | refine blk_drewN ?_ _ | refine blk_drew ?_ | refine blk_alloc ?_ _)); exact BK1220.out)) : gb1240 ≠ gb1220)); clear HO_1; clear HO_1162000; clear HO_1162001; clear HO1193; clear HO1196; clear HO1202; clear HO1205; clear HO1209; clear HO1212; clear HO1215; clear HO1219; clear HO1223; clear HO1226; clear HO1229; clear HO1232; clear HO1235; clear HO1239; clear BK1161; clear BK1198; clear BK1206; clear BK1220; clear HB; have HO_1 := n0_; have HO_1162000 := n1_; have HO_1162001 := n2_; have HO1193 := n3_; have HO1196 := n4_; have HO1202 := n5_; have HO1205 := n6_; have HO1209 := n7_; have HO1212 := n8_; have HO1215 := n9_; have HO1219 := n10_; have HO1223 := n11_; have HO1226 := n12_; have HO1229 := n13_; have HO1232 := n14_; have HO1235 := n15_; have HO1239 := n16_; have BK1161 := n17_; have BK1198 := n18_; have BK1206 := n19_; have BK1220 := n20_; have HB := n21_; have BK1240 := n22_; have GW1240 := n23_; have GE1240 := n24_; have NB1161_1240 := n25_; have NB1240_1161 := n26_; have NB1198_1240 := n27_; have NB1240_1198 := n28_; have NB1206_1240 := n29_; have NB1240_1206 := n30_; have NB1220_1240 := n31_; have NB1240_1220 := n32_; clear n0_ n1_ n2_ n3_ n4_ n5_ n6_ n7_ n8_ n9_ n10_ n11_ n12_ n13_ n14_ n15_ n16_ n17_ n18_ n19_ n20_ n21_ n22_ n23_ n24_ n25_ n26_ n27_ n28_ n29_ n30_ n31_ n32_; clear hb hbox hg; obtain ⟨Ao108, co108, eo108⟩ := Kd.R_slice HO1229.out; subst eo108; have hnb109 := NB1240_1161.out; have hnc109 := NB1161_1240.out; have hnb110 := NB1240_1198.out; have hnc110 := NB1198_1240.out; have hnb111 := NB1240_1206.out; have hnc111 := NB1206_1240.out; have hnb112 := NB1240_1220.out; have hnc112 := NB1220_1240.out; have hcz113_0 : w107.cell? ⟨gb1240, 0, none⟩ = some (.slice none 0 0) := (blk_cell BK1240.out 0).trans rfl; have hcz113_1 : w107.cell? ⟨gb1240, 1, none⟩ = some (.slice none 0 0) := (blk_cell BK1240.out 1).trans rfl; have hfz113_0 := blk_frozen BK1240.out 0; have hfz113_1 := blk_frozen BK1240.out 1; obtain ⟨Ao114, co114, eo114⟩ := Kd.R_slice HO1232.out; subst eo114; obtain ⟨Ao115, co115, eo115⟩ := Kd.V_slice HO1215.out; subst eo115) | (go_at_call 21; (with_reducible refine (customsref33_SameBytes.calls _ _ t1213 _ _ l2 true _ ?side1 ?side2 ?side3 ?side4 A63.out).mono ?_); (case side1 => refine (Kd.V_reads' (e := 5) (base := w.heap.size) (ok := fun k_ => ((((((((some k_ ≠ (.slice Ao96 t1207.length co96 : Value).ownBlock ∧ (some k_ ≠ (.slice Ao101 t1210.length co101 : Value).ownBlock ∧ (some k_ ≠ (v1218 : Value).ownBlock ∧ (some k_ ≠ (.slice Ao72 t1157.length co72 : Value).ownBlock ∧ (some k_ ≠ (.slice Ao74 x1162000_3.length co74 : Value).ownBlock ∧ (some k_ ≠ (.slice Ao75 x1162001_3.length co75 : Value).ownBlock ∧ (some k_ ≠ (.slice Ao78 t1191.length co78 : Value).ownBlock ∧ (some k_ ≠ (.slice Ao81 t1194.length co81 : Value).ownBlock ∧ (some k_ ≠ (.slice Ao87 t1200.length co87 : Value).ownBlock ∧ (some k_ ≠ (.slice Ao89 t1203.length co89 : Value).ownBlock ∧ (k_ ≠ gb1161 ∧ (k_ ≠ gb1198 ∧ k_ ≠ gb1206)))))))))))) ∧ k_ ≠ gb1220) ∧ some k_ ≠ (.slice Ao104 t1221.length co104 : Value).ownBlock) ∧ some k_ ≠ (.slice Ao105 t1224.length co105 : Value).ownBlock) ∧ some k_ ≠ (.slice Ao108 t1227.length co108 : Value).ownBlock) ∧ some k_ ≠ (.slice Ao114 t1230.length co114 : Value).ownBlock) ∧ some k_ ≠ (v1238 : Value).ownBlock) ∧ k_ ≠ gb1240)) (n := t1213.length) (c := co115) ?_).2.2; exact (by (with_reducible repeat (first | apply Kd.V_alloc | apply Kd.V_drewN | apply Kd.V_drew)); exact (Kd.V_mono (Kd.V_far (p := ⟨gb1240, 1, none⟩) (Kd.V_far (p := ⟨gb1240, 0, none⟩) (Kd.V_mono HO1215.out (fun k_ hk => (⟨hk, hk.2⟩ : _ ∧ k_ ≠ gb1240))) (fun _ hk => hk.2) (.slice Ao108 t1227.length co108)) (fun _ hk => hk.2) (.slice Ao114 t1230.length co114)) (fun _ h_ => h_.1)))); (case side2 => exact (Kd.V_reads' HO1215.out).2.1); (case side3 => exact Kd.C_below HR2.out (by repeat (first | (with_reducible first | exact HB.out | apply below_alloc | apply pw_below_drewN | apply below_drew1 | refine below_set ?_ GE1161.out | refine below_set ?_ GE1198.out | refine below_set ?_ GE1206.out | refine below_set ?_ GE1220.out | refine below_set ?_ GE1240.out) | exact HB.out))); (case side4 => exact HC2.out); rintro e w' ⟨rfl, ⟨nd, rfl⟩⟩; obtain ⟨Ao116, co116, eo116⟩ := Kd.N_slice HO1219.out; subst eo116) | (go_at_call 63; (with_reducible refine (customsref33_SameRecords.calls k3 _ _ t1217 _ _ t1157 true _ ?side1 ?side2 ?side3 ?side4 A65.out).mono ?_); (case side1 => refine (Kd.N_reads' (e := 22) (base := w.heap.size) (ok := fun k_ => ((((((((some k_ ≠ (.slice Ao96 t1207.length co96 : Value).ownBlock ∧ (some k_ ≠ (.slice Ao101 t1210.length co101 : Value).ownBlock ∧ (some k_ ≠ (.slice Ao72 t1157.length co72 : Value).ownBlock ∧ (some k_ ≠ (.slice Ao74 x1162000_3.length co74 : Value).ownBlock ∧ (some k_ ≠ (.slice Ao75 x1162001_3.length co75 : Value).ownBlock ∧ (some k_ ≠ (.slice Ao78 t1191.length co78 : Value).ownBlock ∧ (some k_ ≠ (.slice Ao81 t1194.length co81 : Value).ownBlock ∧ (some k_ ≠ (.slice Ao87 t1200.length co87 : Value).ownBlock ∧ (some k_ ≠ (.slice Ao89 t1203.length co89 : Value).ownBlock ∧ (k_ ≠ gb1161 ∧ (k_ ≠ gb1198 ∧ k_ ≠ gb1206))))))))))) ∧ k_ ≠ gb1220) ∧ some k_ ≠ (.slice Ao104 t1221.length co104 : Value).ownBlock) ∧ some k_ ≠ (.slice Ao105 t1224.length co105 : Value).ownBlock) ∧ some k_ ≠ (.slice Ao108 t1227.length co108 : Value).ownBlock) ∧ some k_ ≠ (.slice Ao114 t1230.length co114 : Value).ownBlock) ∧ some k_ ≠ (v1238 : Value).ownBlock) ∧ k_ ≠ gb1240)) (n := t1217.length) (c := co116) ?_).2.2; exact (by (with_reducible repeat (first | apply Kd.N_alloc | apply Kd.N_drewN | apply Kd.N_drew)); exact (Kd.N_mono (Kd.N_far (p := ⟨gb1240, 1, none⟩) (Kd.N_far (p := ⟨gb1240, 0, none⟩) (Kd.N_mono HO1219.out (fun k_ hk => (⟨hk, hk.2⟩ : _ ∧ k_ ≠ gb1240))) (fun _ hk => hk.2) (.slice Ao108 t1227.length co108)) (fun _ hk => hk.2) (.slice Ao114 t1230.length co114)) (fun _ h_ => h_.1)))); (case side2 => exact (Kd.N_reads' HO1219.out).2.1); (case side3 => refine (Kd.N_reads' (e := 22) (base := w.heap.size) (ok := fun k_ => (((((((((((some k_ ≠ (.slice Ao78 t1191.length co78 : Value).ownBlock ∧ (some k_ ≠ (.slice Ao81 t1194.length co81 : Value).ownBlock ∧ (some k_ ≠ (.slice Ao87 t1200.length co87 : Value).ownBlock ∧ (some k_ ≠ (.slice Ao89 t1203.length co89 : Value).ownBlock ∧ (some k_ ≠ (.slice Ao74 x1162000_3.length co74 : Value).ownBlock ∧ (some k_ ≠ (.slice Ao75 x1162001_3.length co75 : Value).ownBlock ∧ (k_ ≠ gb1161 ∧ (k_ ≠ gb1198 ∧ k_ ≠ gb1206)))))))) ∧ some k_ ≠ (.slice Ao96 t1207.length co96 : Value).ownBlock) ∧ some k_ ≠ (.slice Ao101 t1210.length co101 : Value).ownBlock) ∧ some k_ ≠ (.slice Ao116 t1217.length co116 : Value).ownBlock) ∧ k_ ≠ gb1220) ∧ some k_ ≠ (.slice Ao104 t1221.length co104 : Value).ownBlock) ∧ some k_ ≠ (.slice Ao105 t1224.length co105 : Value).ownBlock) ∧ some k_ ≠ (.slice Ao108 t1227.length co108 : Value).ownBlock) ∧ some k_ ≠ (.slice Ao114 t1230.length co114 : Value).ownBlock) ∧ some k_ ≠ (v1238 : Value).ownBlock) ∧ k_ ≠ gb1240)) (n := t1157.length) (c := co72) ?_).2.2; exact (by (with_reducible repeat (first | apply Kd.N_alloc | apply Kd.N_drewN | apply Kd.N_drew)); exact (Kd.N_mono (Kd.N_far (p := ⟨gb1240, 1, none⟩) (Kd.N_far (p := ⟨gb1240, 0, none⟩) (Kd.N_mono HO_1.out (fun k_ hk => (⟨hk, hk.2⟩ : _ ∧ k_ ≠ gb1240))) (fun _ hk => hk.2) (.slice Ao108 t1227.length co108)) (fun _ hk => hk.2) (.slice Ao114 t1230.length co114)) (fun _ h_ => h_.1)))); (case side4 => exact (Kd.N_reads' HO_1.out).2.1); rintro e w' ⟨rfl, ⟨nd, rfl⟩⟩; obtain ⟨Ao117, co117, eo117⟩ := Kd.V_slice HO1235.out; subst eo117) | (go_at_call 21; (with_reducible refine (customsref33_SameBytes.calls _ _ t1233 _ _ l3 true _ ?side1 ?side2 ?side3 ?side4 A68.out).mono ?_); (case side1 => refine (Kd.V_reads' (e := 5) (base := w.heap.size) (ok := fun k_ => ((some k_ ≠ (.slice Ao108 t1227.length co108 : Value).ownBlock ∧ (some k_ ≠ (.slice Ao114 t1230.length co114 : Value).ownBlock ∧ (some k_ ≠ (v1238 : Value).ownBlock ∧ (some k_ ≠ (.slice Ao72 t1157.length co72 : Value).ownBlock ∧ (some k_ ≠ (.slice Ao74 x1162000_3.length co74 : Value).ownBlock ∧ (some k_ ≠ (.slice Ao75 x1162001_3.length co75 : Value).ownBlock ∧ (some k_ ≠ (.slice Ao78 t1191.length co78 : Value).ownBlock ∧ (some k_ ≠ (.slice Ao81 t1194.length co81 : Value).ownBlock ∧ (some k_ ≠ (.slice Ao87 t1200.length co87 : Value).ownBlock ∧ (some k_ ≠ (.slice Ao89 t1203.length co89 : Value).ownBlock ∧ (some k_ ≠ (.slice Ao96 t1207.length co96 : Value).ownBlock ∧ (some k_ ≠ (.slice Ao101 t1210.length co101 : Value).ownBlock ∧ (some k_ ≠ (.slice Ao116 t1217.length co116 : Value).ownBlock ∧ (some k_ ≠ (.slice Ao104 t1221.length co104 : Value).ownBlock ∧ (some k_ ≠ (.slice Ao105 t1224.length co105 : Value).ownBlock ∧ (k_ ≠ gb1161 ∧ (k_ ≠ gb1198 ∧ (k_ ≠ gb1206 ∧ k_ ≠ gb1220)))))))))))))))))) ∧ k_ ≠ gb1240)) (n := t1233.length) (c := co117) ?_).2.2; exact (by (with_reducible repeat (first | apply Kd.V_alloc | apply Kd.V_drewN | apply Kd.V_drew)); exact (Kd.V_mono (Kd.V_far (p := ⟨gb1240, 1, none⟩) (Kd.V_far (p := ⟨gb1240, 0, none⟩) (Kd.V_mono HO1235.out (fun k_ hk => (⟨hk, hk.2⟩ : _ ∧ k_ ≠ gb1240))) (fun _ hk => hk.2) (.slice Ao108 t1227.length co108)) (fun _ hk => hk.2) (.slice Ao114 t1230.length co114)) (fun _ h_ => h_.1)))); (case side2 => exact (Kd.V_reads' HO1235.out).2.1); (case side3 => exact Kd.C_below HR3.out (by repeat (first | (with_reducible first | exact HB.out | apply below_alloc | apply pw_below_drewN | apply below_drew1 | refine below_set ?_ GE1161.out | refine below_set ?_ GE1198.out | refine below_set ?_ GE1206.out | refine below_set ?_ GE1220.out | refine below_set ?_ GE1240.out) | exact HB.out))); (case side4 => exact HC3.out); rintro e w' ⟨rfl, ⟨nd, rfl⟩⟩; obtain ⟨Ao118, co118, eo118⟩ := Kd.N_slice HO1239.out; subst eo118) | (go_at_call 55; (with_reducible refine (customslaw34_awake.calls k3  t1244 _ A71.out).mono ?_); rintro e w119 ⟨rfl, hb⟩; have n0_ := Aside0.mk (Kd.N_below (by (with_reducible repeat (first | apply Kd.N_alloc | apply Kd.N_drewN | apply Kd.N_drew)); exact (Kd.N_mono (Kd.N_far (p := ⟨gb1240, 1, none⟩) (Kd.N_far (p := ⟨gb1240, 0, none⟩) (Kd.N_mono HO_1.out (fun k_ hk => (⟨hk, hk.2⟩ : _ ∧ k_ ≠ gb1240))) (fun _ hk => hk.2) (.slice Ao108 t1227.length co108)) (fun _ hk => hk.2) (.slice Ao114 t1230.length co114)) (fun _ h_ => h_.1))) hb); have n1_ := Aside0.mk (Kd.R_below (by (with_reducible repeat (first | apply Kd.R_alloc | apply Kd.R_drewN | apply Kd.R_drew)); exact (Kd.R_mono (Kd.R_far (p := ⟨gb1240, 1, none⟩) (Kd.R_far (p := ⟨gb1240, 0, none⟩) (Kd.R_types HO_1162000.out BK1240.out (by decide)) (fun _ hk => hk.2) (.slice Ao108 t1227.length co108)) (fun _ hk => hk.2) (.slice Ao114 t1230.length co114)) (fun _ h_ => h_.1))) hb); have n2_ := Aside0.mk (Kd.R_below (by (with_reducible repeat (first | apply Kd.R_alloc | apply Kd.R_drewN | apply Kd.R_drew)); exact (Kd.R_mono (Kd.R_far (p := ⟨gb1240, 1, none⟩) (Kd.R_far (p := ⟨gb1240, 0, none⟩) (Kd.R_types HO_1162001.out BK1240.out (by decide)) (fun _ hk => hk.2) (.slice Ao108 t1227.length co108)) (fun _ hk => hk.2) (.slice Ao114 t1230.length co114)) (fun _ h_ => h_.1))) hb); have n3_ := Aside0.mk (Kd.R_below (by (with_reducible repeat (first | apply Kd.R_alloc | apply Kd.R_drewN | apply Kd.R_drew)); exact (Kd.R_mono (Kd.R_far (p := ⟨gb1240, 1, none⟩) (Kd.R_far (p := ⟨gb1240, 0, none⟩) (Kd.R_types HO1193.out BK1240.out (by decide)) (fun _ hk => hk.2) (.slice Ao108 t1227.length co108)) (fun _ hk => hk.2) (.slice Ao114 t1230.length co114)) (fun _ h_ => h_.1))) hb); have n4_ := Aside0.mk (Kd.R_below (by (with_reducible repeat (first | apply Kd.R_alloc | apply Kd.R_drewN | apply Kd.R_drew)); exact (Kd.R_mono (Kd.R_far (p := ⟨gb1240, 1, none⟩) (Kd.R_far (p := ⟨gb1240, 0, none⟩) (Kd.R_types HO1196.out BK1240.out (by decide)) (fun _ hk => hk.2) (.slice Ao108 t1227.length co108)) (fun _ hk => hk.2) (.slice Ao114 t1230.length co114)) (fun _ h_ => h_.1))) hb); have n5_ := Aside0.mk (Kd.R_below (by (with_reducible repeat (first | apply Kd.R_alloc | apply Kd.R_drewN | apply Kd.R_drew)); exact (Kd.R_mono (Kd.R_far (p := ⟨gb1240, 1, none⟩) (Kd.R_far (p := ⟨gb1240, 0, none⟩) (Kd.R_types HO1202.out BK1240.out (by decide)) (fun _ hk => hk.2) (.slice Ao108 t1227.length co108)) (fun _ hk => hk.2) (.slice Ao114 t1230.length co114)) (fun _ h_ => h_.1))) hb); have n6_ := Aside0.mk (Kd.R_below (by (with_reducible repeat (first | apply Kd.R_alloc | apply Kd.R_drewN | apply Kd.R_drew)); exact (Kd.R_mono (Kd.R_far (p := ⟨gb1240, 1, none⟩) (Kd.R_far (p := ⟨gb1240, 0, none⟩) (Kd.R_types HO1205.out BK1240.out (by decide)) (fun _ hk => hk.2) (.slice Ao108 t1227.length co108)) (fun _ hk => hk.2) (.slice Ao114 t1230.length co114)) (fun _ h_ => h_.1))) hb); have n7_ := Aside0.mk (Kd.R_below (by (with_reducible repeat (first | apply Kd.R_alloc | apply Kd.R_drewN | apply Kd.R_drew)); exact (Kd.R_mono (Kd.R_far (p := ⟨gb1240, 1, none⟩) (Kd.R_far (p := ⟨gb1240, 0, none⟩) (Kd.R_types HO1209.out BK1240.out (by decide)) (fun _ hk => hk.2) (.slice Ao108 t1227.length co108)) (fun _ hk => hk.2) (.slice Ao114 t1230.length co114)) (fun _ h_ => h_.1))) hb); have n8_ := Aside0.mk (Kd.R_below (by (with_reducible repeat (first | apply Kd.R_alloc | apply Kd.R_drewN | apply Kd.R_drew)); exact (Kd.R_mono (Kd.R_far (p := ⟨gb1240, 1, none⟩) (Kd.R_far (p := ⟨gb1240, 0, none⟩) (Kd.R_types HO1212.out BK1240.out (by decide)) (fun _ hk => hk.2) (.slice Ao108 t1227.length co108)) (fun _ hk => hk.2) (.slice Ao114 t1230.length co114)) (fun _ h_ => h_.1))) hb); have n9_ := Aside0.mk (Kd.V_below (by (with_reducible repeat (first | apply Kd.V_alloc | apply Kd.V_drewN | apply Kd.V_drew)); exact (Kd.V_mono (Kd.V_far (p := ⟨gb1240, 1, none⟩) (Kd.V_far (p := ⟨gb1240, 0, none⟩) (Kd.V_mono HO1215.out (fun k_ hk => (⟨hk, hk.2⟩ : _ ∧ k_ ≠ gb1240))) (fun _ hk => hk.2) (.slice Ao108 t1227.length co108)) (fun _ hk => hk.2) (.slice Ao114 t1230.length co114)) (fun _ h_ => h_.1))) hb); have n10_ := Aside0.mk (Kd.N_below (by (with_reducible repeat (first | apply Kd.N_alloc | apply Kd.N_drewN | apply Kd.N_drew)); exact (Kd.N_mono (Kd.N_far (p := ⟨gb1240, 1, none⟩) (Kd.N_far (p := ⟨gb1240, 0, none⟩) (Kd.N_mono HO1219.out (fun k_ hk => (⟨hk, hk.2⟩ : _ ∧ k_ ≠ gb1240))) (fun _ hk => hk.2) (.slice Ao108 t1227.length co108)) (fun _ hk => hk.2) (.slice Ao114 t1230.length co114)) (fun _ h_ => h_.1))) hb); have n11_ := Aside0.mk (Kd.R_below (by (with_reducible repeat (first | apply Kd.R_alloc | apply Kd.R_drewN | apply Kd.R_drew)); exact (Kd.R_mono (Kd.R_far (p := ⟨gb1240, 1, none⟩) (Kd.R_far (p := ⟨gb1240, 0, none⟩) (Kd.R_types HO1223.out BK1240.out (by decide)) (fun _ hk => hk.2) (.slice Ao108 t1227.length co108)) (fun _ hk => hk.2) (.slice Ao114 t1230.length co114)) (fun _ h_ => h_.1))) hb); have n12_ := Aside0.mk (Kd.R_below (by (with_reducible repeat (first | apply Kd.R_alloc | apply Kd.R_drewN | apply Kd.R_drew)); exact (Kd.R_mono (Kd.R_far (p := ⟨gb1240, 1, none⟩) (Kd.R_far (p := ⟨gb1240, 0, none⟩) (Kd.R_types HO1226.out BK1240.out (by decide)) (fun _ hk => hk.2) (.slice Ao108 t1227.length co108)) (fun _ hk => hk.2) (.slice Ao114 t1230.length co114)) (fun _ h_ => h_.1))) hb); have n13_ := Aside0.mk (Kd.R_below (by (with_reducible repeat (first | apply Kd.R_alloc | apply Kd.R_drewN | apply Kd.R_drew)); exact (Kd.R_mono (Kd.R_far (p := ⟨gb1240, 1, none⟩) (Kd.R_far (p := ⟨gb1240, 0, none⟩) (Kd.R_types HO1229.out BK1240.out (by decide)) (fun _ hk => hk.2) (.slice Ao108 t1227.length co108)) (fun _ hk => hk.2) (.slice Ao114 t1230.length co114)) (fun _ h_ => h_.1))) hb); have n14_ := Aside0.mk (Kd.R_below (by (with_reducible repeat (first | apply Kd.R_alloc | apply Kd.R_drewN | apply Kd.R_drew)); exact (Kd.R_mono (Kd.R_far (p := ⟨gb1240, 1, none⟩) (Kd.R_far (p := ⟨gb1240, 0, none⟩) (Kd.R_types HO1232.out BK1240.out (by decide)) (fun _ hk => hk.2) (.slice Ao108 t1227.length co108)) (fun _ hk => hk.2) (.slice Ao114 t1230.length co114)) (fun _ h_ => h_.1))) hb); have n15_ := Aside0.mk (Kd.V_below (by (with_reducible repeat (first | apply Kd.V_alloc | apply Kd.V_drewN | apply Kd.V_drew)); exact (Kd.V_mono (Kd.V_far (p := ⟨gb1240, 1, none⟩) (Kd.V_far (p := ⟨gb1240, 0, none⟩) (Kd.V_mono HO1235.out (fun k_ hk => (⟨hk, hk.2⟩ : _ ∧ k_ ≠ gb1240))) (fun _ hk => hk.2) (.slice Ao108 t1227.length co108)) (fun _ hk => hk.2) (.slice Ao114 t1230.length co114)) (fun _ h_ => h_.1))) hb); have n16_ := Aside0.mk (Kd.N_below (by (with_reducible repeat (first | apply Kd.N_alloc | apply Kd.N_drewN | apply Kd.N_drew)); exact (Kd.N_mono (Kd.N_far (p := ⟨gb1240, 1, none⟩) (Kd.N_far (p := ⟨gb1240, 0, none⟩) (Kd.N_mono HO1239.out (fun k_ hk => (⟨hk, hk.2⟩ : _ ∧ k_ ≠ gb1240))) (fun _ hk => hk.2) (.slice Ao108 t1227.length co108)) (fun _ hk => hk.2) (.slice Ao114 t1230.length co114)) (fun _ h_ => h_.1))) hb); have n17_ := Aside0.mk (blk_below (g := gb1161) (o := .cells #[.slice Ao74 x1162000_3.length co74, .slice Ao75 x1162001_3.length co75] 24 (0, 0)) (by (with_reducible repeat (first | refine blk_drewN ?_ _ | refine blk_drew ?_ | refine blk_alloc ?_ _)); refine blk_far ?_ NB1161_1240.out _; (with_reducible repeat (first | refine blk_drewN ?_ _ | refine blk_drew ?_ | refine blk_alloc ?_ _)); refine blk_far ?_ NB1161_1240.out _; (with_reducible repeat (first | refine blk_drewN ?_ _ | refine blk_drew ?_ | refine blk_alloc ?_ _)); exact BK1161.out) hb); have n18_ := Aside0.mk (blk_below (g := gb1198) (o := .cells #[.slice Ao78 t1191.length co78, .slice Ao81 t1194.length co81] 24 (0, 0)) (by (with_reducible repeat (first | refine blk_drewN ?_ _ | refine blk_drew ?_ | refine blk_alloc ?_ _)); refine blk_far ?_ NB1198_1240.out _; (with_reducible repeat (first | refine blk_drewN ?_ _ | refine blk_drew ?_ | refine blk_alloc ?_ _)); refine blk_far ?_ NB1198_1240.out _; (with_reducible repeat (first | refine blk_drewN ?_ _ | refine blk_drew ?_ | refine blk_alloc ?_ _)); exact BK1198.out) hb); have n19_ := Aside0.mk (blk_below (g := gb1206) (o := .cells #[.slice Ao87 t1200.length co87, .slice Ao89 t1203.length co89] 24 (0, 0)) (by (with_reducible repeat (first | refine blk_drewN ?_ _ | refine blk_drew ?_ | refine blk_alloc ?_ _)); refine blk_far ?_ NB1206_1240.out _; (with_reducible repeat (first | refine blk_drewN ?_ _ | refine blk_drew ?_ | refine blk_alloc ?_ _)); refine blk_far ?_ NB1206_1240.out _; (with_reducible repeat (first | refine blk_drewN ?_ _ | refine blk_drew ?_ | refine blk_alloc ?_ _)); exact BK1206.out) hb); have n20_ := Aside0.mk (blk_below (g := gb1220) (o := .cells #[.slice Ao96 t1207.length co96, .slice Ao101 t1210.length co101] 24 (0, 0)) (by (with_reducible repeat (first | refine blk_drewN ?_ _ | refine blk_drew ?_ | refine blk_alloc ?_ _)); refine blk_far ?_ NB1220_1240.out _; (with_reducible repeat (first | refine blk_drewN ?_ _ | refine blk_drew ?_ | refine blk_alloc ?_ _)); refine blk_far ?_ NB1220_1240.out _; (with_reducible repeat (first | refine blk_drewN ?_ _ | refine blk_drew ?_ | refine blk_alloc ?_ _)); exact BK1220.out) hb); have n21_ := Aside0.mk (blk_below (g := gb1240) (o := .cells #[.slice Ao108 t1227.length co108, .slice Ao114 t1230.length co114] 24 (0, 0)) (by (with_reducible repeat (first | refine blk_drewN ?_ _ | refine blk_drew ?_ | refine blk_alloc ?_ _)); refine blk_put (cs := #[.slice Ao108 t1227.length co108, .slice none 0 0]) ?_ 1 _ rfl; (with_reducible repeat (first | refine blk_drewN ?_ _ | refine blk_drew ?_ | refine blk_alloc ?_ _)); refine blk_put (cs := #[.slice none 0 0, .slice none 0 0]) ?_ 0 _ rfl; (with_reducible repeat (first | refine blk_drewN ?_ _ | refine blk_drew ?_ | refine blk_alloc ?_ _)); exact BK1240.out) hb); have n22_ := Aside0.mk (below_step (by repeat (first | (with_reducible first | exact HB.out | apply below_alloc | apply pw_below_drewN | apply below_drew1 | refine below_set ?_ GE1161.out | refine below_set ?_ GE1198.out | refine below_set ?_ GE1206.out | refine below_set ?_ GE1220.out | refine below_set ?_ GE1240.out) | exact HB.out)) hb); clear HO_1; clear HO_1162000; clear HO_1162001; clear HO1193; clear HO1196; clear HO1202; clear HO1205; clear HO1209; clear HO1212; clear HO1215; clear HO1219; clear HO1223; clear HO1226; clear HO1229; clear HO1232; clear HO1235; clear HO1239; clear BK1161; clear BK1198; clear BK1206; clear BK1220; clear BK1240; clear HB; have HO_1 := n0_; have HO_1162000 := n1_; have HO_1162001 := n2_; have HO1193 := n3_; have HO1196 := n4_; have HO1202 := n5_; have HO1205 := n6_; have HO1209 := n7_; have HO1212 := n8_; have HO1215 := n9_; have HO1219 := n10_; have HO1223 := n11_; have HO1226 := n12_; have HO1229 := n13_; have HO1232 := n14_; have HO1235 := n15_; have HO1239 := n16_; have BK1161 := n17_; have BK1198 := n18_; have BK1206 := n19_; have BK1220 := n20_; have BK1240 := n21_; have HB := n22_; clear n0_ n1_ n2_ n3_ n4_ n5_ n6_ n7_ n8_ n9_ n10_ n11_ n12_ n13_ n14_ n15_ n16_ n17_ n18_ n19_ n20_ n21_ n22_; (try clear hb); (try clear hb2); (try clear hk); (try clear hi)))
                                    go_ret
                                    exact ⟨by first | rfl | (simp [errW_none, errW_some] <;> rfl) | (simp [*, errW_none, errW_some] <;> rfl), by repeat (first | (with_reducible first | exact HB.out | apply below_alloc | apply pw_below_drewN | apply below_drew1 | refine below_set ?_ GE1161.out | refine below_set ?_ GE1198.out | refine below_set ?_ GE1206.out | refine below_set ?_ GE1220.out | refine below_set ?_ GE1240.out) | exact HB.out)⟩
                                  · rw [if_neg c70] at H
                                    exact absurd H (by simp)
                                · replace c69 := Bool.eq_false_iff.mpr c69
                                  subst c69
                                  have H1 : (none) = some r := by rw [if_neg (show ¬ (false = true) by decide)] at H; exact H
                                  clear H
                                  have H := H1
                                  clear H1
                                  exact absurd H (by simp)
                              · replace c67 := Bool.eq_false_iff.mpr c67
                                subst c67
                                have H1 : (none) = some r := by rw [if_neg (show ¬ (false = true) by decide)] at H; exact H
                                clear H
                                have H := H1
                                clear H1
                                exact absurd H (by simp)
                            · replace c66 := Bool.eq_false_iff.mpr c66
                              subst c66
                              have H1 : (none) = some r := by rw [if_neg (show ¬ (false = true) by decide)] at H; exact H
                              clear H
                              have H := H1
                              clear H1
                              exact absurd H (by simp)
                          · replace c64 := Bool.eq_false_iff.mpr c64
                            subst c64
                            have H1 : (none) = some r := by rw [if_neg (show ¬ (false = true) by decide)] at H; exact H
                            clear H
                            have H := H1
                            clear H1
                            exact absurd H (by simp)
                        · replace c62 := Bool.eq_false_iff.mpr c62
                          subst c62
                          have H1 : (none) = some r := by rw [if_neg (show ¬ (false = true) by decide)] at H; exact H
                          clear H
                          have H := H1
                          clear H1
                          exact absurd H (by simp)
                      · rw [if_neg c61] at H
                        exact absurd H (by simp)
                    · rw [if_neg c60] at H
                      exact absurd H (by simp)

end Go.Proofs.Ytfljnggpnndmkaa.Z
