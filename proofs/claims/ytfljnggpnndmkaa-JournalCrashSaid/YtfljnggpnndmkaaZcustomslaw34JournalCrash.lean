/- Written by a program of this session: each Go function as a plain Lean function, and that the machine's call does what it says. Conditions: none but those each theorem states. -/
import Derived.Test.YtfljnggpnndmkaaZ0
import Derived.Test.YtfljnggpnndmkaaZdiskCrash
import Derived.Test.YtfljnggpnndmkaaZcustomsmadeWithin
import Derived.Test.YtfljnggpnndmkaaZjournalPut
import Derived.Test.YtfljnggpnndmkaaZjournalAppend
import Derived.Test.YtfljnggpnndmkaaZjournalOpen
import Derived.Test.YtfljnggpnndmkaaZcustomslaw34awake
import Derived.Test.YtfljnggpnndmkaaZcustomslaw34cut
import Derived.Test.YtfljnggpnndmkaaZcustomsref33SameRecords
namespace Go.Proofs.Ytfljnggpnndmkaa.Z
open Go.RowKit Go.Proofs.YtfljnggpnndmkaaW.PrintWords Go.Proofs.YtfljnggpnndmkaaW.PrintLast Go.Proofs.YtfljnggpnndmkaaW.PrintMore
attribute [local go_sem] max2_int min2_int max_two min_two max_three min_three max_four min_four   -- for this text's walks alone
set_option linter.unusedVariables false
set_option linter.unusedSimpArgs false

/-! ### customslaw34_JournalCrash: function 14 -/
mutual
def customslaw34_JournalCrash.l0 : Nat → List (List Int) → List (List Int) → Int → Int → List Int → List Int → Option (Bool)
  | 0, _, _, _, _, _, _ => none
  | k + 1, x0, x1, x2, x8, x14008000, x14008001 => if x8 < (x0.length : Int) then (if 0 ≤ x8 then ((journal_Append.f k x14008000 x14008001 (rd_L1 x0 x8)).bind fun bt14009 => (if bt14009.2.2 = 0 then (customslaw34_JournalCrash.l0 k x0 x1 x2 (wrap64 (x8 + 1)) bt14009.1 bt14009.2.1) else (none))) else (none)) else (customslaw34_JournalCrash.l1 k x0 x1 x2 0 x14008000 x14008001)
def customslaw34_JournalCrash.l1 : Nat → List (List Int) → List (List Int) → Int → Int → List Int → List Int → Option (Bool)
  | 0, _, _, _, _, _, _ => none
  | k + 1, x0, x1, x2, x11, x14008000, x14008001 => if x11 < (x1.length : Int) then (if 0 ≤ x11 then ((journal_Put.f k x14008000 x14008001 1 (rd_L1 x1 x11)).bind fun bt14018 => (if bt14018.2.2 = 0 then (customslaw34_JournalCrash.l1 k x0 x1 x2 (wrap64 (x11 + 1)) bt14018.1 bt14018.2.1) else (none))) else (none)) else ((some (([] : List (List Int)) : List (List Int))).bind fun y14026 => (if y14026.length + x0.length < 5864062014805 then ((some (y14026 ++ x0 : List (List Int))).bind fun y14029 => (if y14029.length + x1.length < 5864062014805 then ((some (y14029 ++ x1 : List (List Int))).bind fun y14032 => ((customsmade_Within.f x2 5000).bind fun t14035 => ((disk_Crash.f x14008000 x14008001 t14035).bind fun bt14036 => ((journal_Open.f k bt14036.1 bt14036.2).bind fun bt14042 => (if bt14042.2.2.2.1 = true then (customslaw34_JournalCrash.j2 k bt14042.2.2.2.2 true bt14042.1 bt14042.2.1) else (if (bt14042.2.2.2.2.length : Int) < (x0.length : Int) then (customslaw34_JournalCrash.j2 k bt14042.2.2.2.2 true bt14042.1 bt14042.2.1) else (if (bt14042.2.2.2.2.length : Int) > (y14032.length : Int) then (customslaw34_JournalCrash.j2 k bt14042.2.2.2.2 true bt14042.1 bt14042.2.1) else (if 0 ≤ (bt14042.2.2.2.2.length : Int) then (if (bt14042.2.2.2.2.length : Int) ≤ (y14032.length : Int) then ((customsref33_SameRecords.f k bt14042.2.2.2.2 (y14032.take ((bt14042.2.2.2.2.length : Int) : Int).toNat)).bind fun t14061 => (customslaw34_JournalCrash.j2 k bt14042.2.2.2.2 (!t14061) bt14042.1 bt14042.2.1)) else (none)) else (none))))))))) else (none))) else (none)))
def customslaw34_JournalCrash.j2 : Nat → List (List Int) → Bool → List Int → List Int → Option (Bool)
  | 0, _, _, _, _ => none
  | k + 1, x18, x104, x14056000, x14056001 => if x104 = true then (none) else ((some ([109, 111, 114, 101] : List Int)).bind fun t14062 => ((journal_Append.f k x14056000 x14056001 t14062).bind fun bt14065 => ((journal_Open.f k bt14065.1 bt14065.2.1).bind fun bt14073 => (if bt14065.2.2 = 0 then ((some (([] : List (List Int)) : List (List Int))).bind fun y14087 => (if y14087.length + x18.length < 5864062014805 then ((some (y14087 ++ x18 : List (List Int))).bind fun y14090 => ((some ([109, 111, 114, 101] : List Int)).bind fun t14093 => (if y14090.length < 5864062014805 then ((customsref33_SameRecords.f k bt14073.2.2.2.2 (y14090 ++ [t14093])).bind fun t14099 => (if t14099 = true then ((customslaw34_awake.f k).bind fun t14100 => (some t14100)) else (none))) else (none)))) else (none))) else (none)))))
end
def customslaw34_JournalCrash.f (k : Nat) (l0 : List (List Int)) (l1 : List (List Int)) (a2 : Int) : Option (Bool) := (customslaw34_cut.f k l0).bind fun t14001 => ((customslaw34_cut.f k l1).bind fun t14004 => (customslaw34_JournalCrash.l0 k t14001 t14004 a2 0 ([] : List Int) ([] : List Int)))
theorem customslaw34_JournalCrash.mono_l : ∀ k, (∀ y0 y1 y2 y3 y4 y5, LeO (customslaw34_JournalCrash.l0 k y0 y1 y2 y3 y4 y5) (customslaw34_JournalCrash.l0 (k + 1) y0 y1 y2 y3 y4 y5)) ∧ (∀ y0 y1 y2 y3 y4 y5, LeO (customslaw34_JournalCrash.l1 k y0 y1 y2 y3 y4 y5) (customslaw34_JournalCrash.l1 (k + 1) y0 y1 y2 y3 y4 y5)) ∧ (∀ y0 y1 y2 y3, LeO (customslaw34_JournalCrash.j2 k y0 y1 y2 y3) (customslaw34_JournalCrash.j2 (k + 1) y0 y1 y2 y3))
  | 0 => ⟨fun _ _ _ _ _ _ r h => by simp [customslaw34_JournalCrash.l0] at h, fun _ _ _ _ _ _ r h => by simp [customslaw34_JournalCrash.l1] at h, fun _ _ _ _ r h => by simp [customslaw34_JournalCrash.j2] at h⟩
  | k + 1 => by
    obtain ⟨ih0, ih1, ih2⟩ := customslaw34_JournalCrash.mono_l k
    refine ⟨?_, ?_, ?_⟩
    · intro y0 y1 y2 y3 y4 y5
      unfold customslaw34_JournalCrash.l0
      repeat' first
      | (with_reducible exact ih0 _ _ _ _ _ _)
      | (with_reducible exact ih1 _ _ _ _ _ _)
      | (with_reducible exact ih2 _ _ _ _)
      | (with_reducible exact customslaw34_awake.mono _)
      | (with_reducible exact customslaw34_cut.mono _ _)
      | (with_reducible exact customsref33_SameRecords.mono _ _ _)
      | (with_reducible exact journal_Append.mono _ _ _ _)
      | (with_reducible exact journal_Open.mono _ _ _)
      | (with_reducible exact journal_Put.mono _ _ _ _ _)
      | (with_reducible exact LeO.refl _)
      | (with_reducible exact LeO.none _)
      | (with_reducible refine LeO.ite ?_ ?_)
      | (with_reducible refine LeO.bind ?_ (fun _ => ?_))
      | exact ih0 _ _ _ _ _ _
      | exact ih1 _ _ _ _ _ _
      | exact ih2 _ _ _ _
      | exact customslaw34_awake.mono _
      | exact customslaw34_cut.mono _ _
      | exact customsref33_SameRecords.mono _ _ _
      | exact journal_Append.mono _ _ _ _
      | exact journal_Open.mono _ _ _
      | exact journal_Put.mono _ _ _ _ _
      | exact LeO.none _
      | refine LeO.ite ?_ ?_
      | refine LeO.bind ?_ (fun _ => ?_)
    · intro y0 y1 y2 y3 y4 y5
      unfold customslaw34_JournalCrash.l1
      repeat' first
      | (with_reducible exact ih0 _ _ _ _ _ _)
      | (with_reducible exact ih1 _ _ _ _ _ _)
      | (with_reducible exact ih2 _ _ _ _)
      | (with_reducible exact customslaw34_awake.mono _)
      | (with_reducible exact customslaw34_cut.mono _ _)
      | (with_reducible exact customsref33_SameRecords.mono _ _ _)
      | (with_reducible exact journal_Append.mono _ _ _ _)
      | (with_reducible exact journal_Open.mono _ _ _)
      | (with_reducible exact journal_Put.mono _ _ _ _ _)
      | (with_reducible exact LeO.refl _)
      | (with_reducible exact LeO.none _)
      | (with_reducible refine LeO.ite ?_ ?_)
      | (with_reducible refine LeO.bind ?_ (fun _ => ?_))
      | exact ih0 _ _ _ _ _ _
      | exact ih1 _ _ _ _ _ _
      | exact ih2 _ _ _ _
      | exact customslaw34_awake.mono _
      | exact customslaw34_cut.mono _ _
      | exact customsref33_SameRecords.mono _ _ _
      | exact journal_Append.mono _ _ _ _
      | exact journal_Open.mono _ _ _
      | exact journal_Put.mono _ _ _ _ _
      | exact LeO.none _
      | refine LeO.ite ?_ ?_
      | refine LeO.bind ?_ (fun _ => ?_)
    · intro y0 y1 y2 y3
      unfold customslaw34_JournalCrash.j2
      repeat' first
      | (with_reducible exact ih0 _ _ _ _ _ _)
      | (with_reducible exact ih1 _ _ _ _ _ _)
      | (with_reducible exact ih2 _ _ _ _)
      | (with_reducible exact customslaw34_awake.mono _)
      | (with_reducible exact customslaw34_cut.mono _ _)
      | (with_reducible exact customsref33_SameRecords.mono _ _ _)
      | (with_reducible exact journal_Append.mono _ _ _ _)
      | (with_reducible exact journal_Open.mono _ _ _)
      | (with_reducible exact journal_Put.mono _ _ _ _ _)
      | (with_reducible exact LeO.refl _)
      | (with_reducible exact LeO.none _)
      | (with_reducible refine LeO.ite ?_ ?_)
      | (with_reducible refine LeO.bind ?_ (fun _ => ?_))
      | exact ih0 _ _ _ _ _ _
      | exact ih1 _ _ _ _ _ _
      | exact ih2 _ _ _ _
      | exact customslaw34_awake.mono _
      | exact customslaw34_cut.mono _ _
      | exact customsref33_SameRecords.mono _ _ _
      | exact journal_Append.mono _ _ _ _
      | exact journal_Open.mono _ _ _
      | exact journal_Put.mono _ _ _ _ _
      | exact LeO.none _
      | refine LeO.ite ?_ ?_
      | refine LeO.bind ?_ (fun _ => ?_)
theorem customslaw34_JournalCrash.mono : ∀ a0 a1 a2 k, LeO (customslaw34_JournalCrash.f k a0 a1 a2) (customslaw34_JournalCrash.f (k + 1) a0 a1 a2) := by
  intro a0 a1 a2 k
  obtain ⟨ih0, ih1, ih2⟩ := customslaw34_JournalCrash.mono_l k
  unfold customslaw34_JournalCrash.f
  repeat' first
      | (with_reducible exact ih0 _ _ _ _ _ _)
      | (with_reducible exact ih1 _ _ _ _ _ _)
      | (with_reducible exact ih2 _ _ _ _)
      | (with_reducible exact customslaw34_awake.mono _)
      | (with_reducible exact customslaw34_cut.mono _ _)
      | (with_reducible exact customsref33_SameRecords.mono _ _ _)
      | (with_reducible exact journal_Append.mono _ _ _ _)
      | (with_reducible exact journal_Open.mono _ _ _)
      | (with_reducible exact journal_Put.mono _ _ _ _ _)
      | (with_reducible exact LeO.refl _)
      | (with_reducible exact LeO.none _)
      | (with_reducible refine LeO.ite ?_ ?_)
      | (with_reducible refine LeO.bind ?_ (fun _ => ?_))
      | exact ih0 _ _ _ _ _ _
      | exact ih1 _ _ _ _ _ _
      | exact ih2 _ _ _ _
      | exact customslaw34_awake.mono _
      | exact customslaw34_cut.mono _ _
      | exact customsref33_SameRecords.mono _ _ _
      | exact journal_Append.mono _ _ _ _
      | exact journal_Open.mono _ _ _
      | exact journal_Put.mono _ _ _ _ _
      | exact LeO.none _
      | refine LeO.ite ?_ ?_
      | refine LeO.bind ?_ (fun _ => ?_)
def customslaw34_JournalCrash.T6 : Bool × List (List Nat × List Nat) := (true, [([], []), ([], []), ([], []), ([1, 2], [1, 2]), ([3], [3]), ([0, 4], [0, 4]), ([5], [5]), ([6], [6]), ([6], [6]), ([], []), ([9, 7, 5, 0, 1, 2, 3, 4, 5, 6, 7, 9], [7, 9]), ([8, 10, 0, 1, 2, 3, 4, 5, 6, 7, 8, 9, 10], [8])])
def customslaw34_JournalCrash.B6 : List Nat := [0, 0, 0, 6, 14, 31, 63, 127, 127, 0, 767, 2047]
theorem customslaw34_JournalCrash.tab6 : rtab .any (opsOf Try.f14 6) = customslaw34_JournalCrash.T6 := by kernel_rfl
theorem customslaw34_JournalCrash.bits6 : waitsOk customslaw34_JournalCrash.T6.2 customslaw34_JournalCrash.B6 = true := by kernel_rfl
def customslaw34_JournalCrash.T13 : Bool × List (List Nat × List Nat) := (true, [([], []), ([], []), ([], []), ([1, 2], [1, 2]), ([3], [3]), ([4], [4]), ([0, 5], [0, 5]), ([6], [6]), ([7], [7]), ([7], [7]), ([], []), ([10, 8, 6, 0, 1, 2, 3, 4, 5, 6, 7, 8, 10], [8, 10]), ([9, 11, 0, 1, 2, 3, 4, 5, 6, 7, 8, 9, 10, 11], [9])])
def customslaw34_JournalCrash.B13 : List Nat := [0, 0, 0, 6, 14, 30, 63, 127, 255, 255, 0, 1535, 4095]
theorem customslaw34_JournalCrash.tab13 : rtab .any (opsOf Try.f14 13) = customslaw34_JournalCrash.T13 := by kernel_rfl
theorem customslaw34_JournalCrash.bits13 : waitsOk customslaw34_JournalCrash.T13.2 customslaw34_JournalCrash.B13 = true := by kernel_rfl
def customslaw34_JournalCrash.T18 : Bool × List (List Nat × List Nat) := (true, [([], []), ([], []), ([1], [1]), ([0, 2, 2], [0, 2]), ([3, 3], [3]), ([4], [4]), ([5], [5]), ([5], [5]), ([5], [5]), ([5], [5]), ([], []), ([10, 6, 4, 0, 1, 2, 3, 4, 5, 6, 10], [6, 10]), ([7, 11, 0, 1, 2, 3, 4, 5, 6, 7, 10, 11], [7]), ([8, 12, 0, 1, 2, 3, 4, 5, 6, 7, 8, 10, 11, 12], [8]), ([9, 13, 0, 1, 2, 3, 4, 5, 6, 7, 8, 9, 10, 11, 12, 13], [9])])
def customslaw34_JournalCrash.B18 : List Nat := [0, 0, 2, 7, 15, 31, 63, 63, 63, 63, 0, 1151, 3327, 7679, 16383]
theorem customslaw34_JournalCrash.tab18 : rtab .any (opsOf Try.f14 18) = customslaw34_JournalCrash.T18 := by kernel_rfl
theorem customslaw34_JournalCrash.bits18 : waitsOk customslaw34_JournalCrash.T18.2 customslaw34_JournalCrash.B18 = true := by kernel_rfl
set_option maxHeartbeats 8000000 in
set_option maxRecDepth 100000 in
theorem customslaw34_JournalCrash.calls (k : Nat) (A0 : Option Addr) (c0 : Nat) (l0 : List (List Int)) (A1 : Option Addr) (c1 : Nat) (l1 : List (List Int)) (a2 : Int) (r : Bool) (w : World) (hr0 : Kd.C (Kd.slice 5 (Kd.int .u8)) w A0 l0.length l0) (hc0 : l0.length ≤ c0) (hr1 : Kd.C (Kd.slice 5 (Kd.int .u8)) w A1 l1.length l1) (hc1 : l1.length ≤ c1) (h : customslaw34_JournalCrash.f k l0 l1 a2 = some r) :
    Calls Try.prog 14 #[.slice A0 l0.length c0, .slice A1 l1.length c1, .int .i64 a2] w fun e w' => e = .returned (.bool r) ∧ Below w.heap.size w w' := by
  have hu24 := Try.underlying24
  have hu57 := Try.underlying57
  have HR0 := Aside0.mk hr0
  have HC0 := Aside0.mk hc0
  clear hr0 hc0
  have HR1 := Aside0.mk hr1
  have HC1 := Aside0.mk hc1
  clear hr1 hc1
  have HB := Aside0.mk (Below.refl w.heap.size w)
  have H : ((customslaw34_cut.f k l0).bind fun t14001 => ((customslaw34_cut.f k l1).bind fun t14004 => (customslaw34_JournalCrash.l0 k t14001 t14004 a2 0 ([] : List Int) ([] : List Int)))) = some r := h
  clear h
  replace H := Option.bind_eq_some_iff.mp H
  obtain ⟨t14001, A40, H⟩ := H
  try dsimp only at H
  have A4 := Aside0.mk A40
  clear A40
  replace H := Option.bind_eq_some_iff.mp H
  obtain ⟨t14004, A50, H⟩ := H
  try dsimp only at H
  have A5 := Aside0.mk A50
  clear A50
  have H' := Aside0.mk H
  clear H
  go_enter Try.func14, Try.ntmps14
  go_wp2_with (first | ((with_reducible refine gate_callee (f := 56) rfl ?_); refine goesL_ (some 26) rfl rfl Try.func56 (by kernel_rfl) rfl #[.slice A0 l0.length c0] rfl (by (try simp only [List.map_toArray, List.map_cons, List.map_nil]); first | done | rfl | (simp only [List.length_drop, List.length_take]; rfl)) ?_; (with_reducible refine (customslaw34_cut.calls k (fun k_ => k_ < w.heap.size) _ _ l0 t14001 _ ?side1 A4.out).mono ?_); (case side1 => exact Kd.V_mk HC0.out (Kd.F_below (Kd.C_F (Kd.heap_slice 5 (Kd.heap_int .u8)) HR0.out) (below_ext HB.out))); rintro e w6 ⟨v14002, rfl, ho0, hb⟩; refine ⟨_, rfl, ?_⟩; have n0_ := Aside0.mk (Kd.N_lower (Kd.N_mono (ok' := fun k_ => True) ho0 (fun k_ hk_ => trivial)) (below_size (below_ext HB.out))); have HO14003 := n0_; replace HB := mvH HB hb; clear n0_; (try clear hb); (try clear hb2); (try clear hk); (try clear hi); (try clear ho0)) | ((with_reducible refine gate_callee (f := 56) rfl ?_); refine goesL_ (some 28) rfl rfl Try.func56 (by kernel_rfl) rfl #[.slice A1 l1.length c1] rfl (by (try simp only [List.map_toArray, List.map_cons, List.map_nil]); first | done | rfl | (simp only [List.length_drop, List.length_take]; rfl)) ?_; (with_reducible refine (customslaw34_cut.calls k (fun k_ => k_ < w.heap.size) _ _ l1 t14004 _ ?side1 A5.out).mono ?_); (case side1 => exact Kd.V_mk HC1.out (Kd.F_below (Kd.C_F (Kd.heap_slice 5 (Kd.heap_int .u8)) HR1.out) (below_ext HB.out))); rintro e w7 ⟨v14005, rfl, ho0, hb⟩; refine ⟨_, rfl, ?_⟩; have n1_ := Aside0.mk (Kd.N_lower (Kd.N_mono (ok' := fun k_ => some k_ ≠ (v14002 : Value).ownBlock) ho0 (fun k_ hk_ => Or.elim hk_ (fun hs_ => fun e_ => Nat.not_le.2 hs_ (Kd.N_base HO14003.out k_ e_.symm)) (fun hn_ => (Kd.fresh' (Kd.N_lt (Kd.N_ext HO14003.out)) k_ hn_)))) (below_size (below_ext HB.out))); have HO14006 := n1_; replace HO14003 := apN HO14003 hb (Kd.N_base ho0); replace HB := mvH HB hb; clear n1_; (try clear hb); (try clear hb2); (try clear hk); (try clear hi); (try clear ho0)) | ((with_reducible refine gate_dst (N := 7) rfl ?_); (try (refine gate_guard (by rfl) ?_; dsimp only)); refine box_event ?hg (N := 7) ?hd (cs := #[.slice none 0 0, .slice none 0 0]) (t := 24) ?hr ?_; (case hd => rfl); (case hg => rfl); (case hr => first | (go_simp; done) | (go_simp; rfl)); intro gb14007 hg w8 hbox hb; have n3_ := Aside0.mk (hbox); have n4_ := Aside0.mk ((by rw [hg]; exact (below_size (below_ext HB.out)) : w.heap.size ≤ gb14007)); have n5_ := Aside0.mk ((by rw [hg]; exact (below_size (below_ext HB.out)) : w.heap.size ≤ gb14007)); have BK14007 := n3_; have GW14007 := n4_; have GE14007 := n5_; have GI14007 := GE_.mk GE14007.out; replace HO14003 := awN HO14003 hb gb14007 hg; replace HO14006 := awN HO14006 hb gb14007 hg; replace HB := mvH HB hb; clear n3_ n4_ n5_; clear hb hbox hg))
  go_loopg [8] k (fun kq v8 w' => ∃ (x8_1 : Int) (x14008000_1 : List Int) (x14008001_1 : List Int) (u14008000 : Value) (u14008001 : Value), v8 = .int .i64 x8_1 ∧ Aside0 (customslaw34_JournalCrash.l0 kq t14001 t14004 a2 x8_1 x14008000_1 x14008001_1 = some r) ∧ Aside0 (kq ≤ k) ∧ Aside0 (Kd.N (Kd.slice 5 (Kd.int .u8)) 22 w' w.heap.size (fun k_ => some k_ ≠ (v14005 : Value).ownBlock ∧ some k_ ≠ (u14008000 : Value).ownBlock ∧ some k_ ≠ (u14008001 : Value).ownBlock ∧ k_ ≠ gb14007) v14002 t14001) ∧ Aside0 (Kd.N (Kd.slice 5 (Kd.int .u8)) 22 w' w.heap.size (fun k_ => some k_ ≠ (v14002 : Value).ownBlock ∧ some k_ ≠ (u14008000 : Value).ownBlock ∧ some k_ ≠ (u14008001 : Value).ownBlock ∧ k_ ≠ gb14007) v14005 t14004) ∧ Aside0 (Kd.R (Kd.int .u8) 5 w' w.heap.size (fun k_ => some k_ ≠ (u14008001 : Value).ownBlock) u14008000 x14008000_1) ∧ Aside0 (Kd.R (Kd.int .u8) 5 w' w.heap.size (fun k_ => some k_ ≠ (u14008000 : Value).ownBlock) u14008001 x14008001_1) ∧ Aside0 (w'.heap[gb14007]? = some (.cells #[u14008000, u14008001] 24 (0, 0))) ∧ Aside0 (Below w.heap.size w w'))
  case atStart => exact ⟨(0), (([] : List Int)), (([] : List Int)), (.slice none 0 0), (.slice none 0 0), (by first | rfl | (simp; done) | (simp [*]; done)), H', ⟨Nat.le_refl _⟩, ⟨Kd.N_ext (Kd.N_mono HO14003.out (fun _ hk => ⟨hk.1.2, ⟨(by simp [Value.ownBlock]), ⟨(by simp [Value.ownBlock]), hk.2⟩⟩⟩))⟩, ⟨Kd.N_ext (Kd.N_mono HO14006.out (fun _ hk => ⟨hk.1, ⟨(by simp [Value.ownBlock]), ⟨(by simp [Value.ownBlock]), hk.2⟩⟩⟩))⟩, ⟨by first | exact Kd.R_nil _ _ _ _ _ | exact Kd.N_nil _ _ _ _ _ | exact Kd.V_nil _ _ _ _ _ | exact Kd.Q_nil _ _ _ _ _ | exact Kd.S_nil _ _ _ _ _⟩, ⟨by first | exact Kd.R_nil _ _ _ _ _ | exact Kd.N_nil _ _ _ _ _ | exact Kd.V_nil _ _ _ _ _ | exact Kd.Q_nil _ _ _ _ _ | exact Kd.S_nil _ _ _ _ _⟩, ⟨blk_ext BK14007.out⟩, ⟨below_extB HB.out⟩⟩
  case round =>
    clear H'
    try clear c1
    try clear p2
    try clear c5
    obtain ⟨x8_1, x14008000_1, x14008001_1, u14008000, u14008001, rfl, HA, HK1, HO_0, HO_1, HO_14008000, HO_14008001, BK14007, HB⟩ := hrel
    cases gk with
    | zero => exact absurd HA.out (by simp [customslaw34_JournalCrash.l0])
    | succ k1 =>
      have H := HA.out
      clear HA
      simp only [customslaw34_JournalCrash.l0] at H
      by_cases c9 : x8_1 < (t14001.length : Int)
      · rw [if_pos c9] at H
        have c9b0 : decide (x8_1 < (t14001.length : Int)) = true := decide_eq_true c9
        clear c9
        replace H := if_some H; obtain ⟨c10, H⟩ := H
        have c10b0 : decide (0 ≤ x8_1) = true := decide_eq_true c10
        clear c10
        replace H := Option.bind_eq_some_iff.mp H
        obtain ⟨⟨t14009, t14012, t14015⟩, A110, H⟩ := H
        try dsimp only at H
        have A11 := Aside0.mk A110
        clear A110
        replace H := if_some H; obtain ⟨c12, H⟩ := H
        have c12b0 : (t14015 == 0) = true := beq_iff_eq.mpr c12
        have c12b1 : (t14015 != 0) = false := bne_eq_false_iff_eq.mpr c12
        clear c12
        have H' := Aside0.mk H
        clear H
        obtain ⟨Ao13, co13, eo13⟩ := Kd.N_slice HO_0.out
        subst eo13
        obtain ⟨Ao14, co14, eo14⟩ := Kd.R_slice HO_14008000.out
        subst eo14
        obtain ⟨Ao15, co15, eo15⟩ := Kd.R_slice HO_14008001.out
        subst eo15
        try go_wp2
        have n0_ := Aside0.mk (Kd.N_drew HO_0.out)
        have n1_ := Aside0.mk (Kd.N_drew HO_1.out)
        have n2_ := Aside0.mk (Kd.R_drew HO_14008000.out)
        have n3_ := Aside0.mk (Kd.R_drew HO_14008001.out)
        have n4_ := Aside0.mk (blk_drew BK14007.out)
        have n5_ := Aside0.mk (below_drew1 HB.out)
        clear HO_0
        clear HO_1
        clear HO_14008000
        clear HO_14008001
        clear BK14007
        clear HB
        have HO_0 := n0_
        have HO_1 := n1_
        have HO_14008000 := n2_
        have HO_14008001 := n3_
        have BK14007 := n4_
        have HB := n5_
        clear n0_ n1_ n2_ n3_ n4_ n5_
        have p14008 : 0 ≤ (x8_1 : Int) := of_decide_eq_true (by first | (with_reducible assumption) | assumption)
        have q14008 : x8_1 < (t14001.length : Int) := of_decide_eq_true (by first | (with_reducible assumption) | assumption)
        obtain ⟨ad14008, A14008_0, c14008_0, e14008, hx14008_0, hl14008_0, hi14008_0⟩ := at_L1 (Kd.N_reads' HO_0.out).2.2 x8_1 p14008 q14008
        cases e14008
        obtain ⟨ce14008, hce14008, hMe14008, hcc14008⟩ := Kd.N_get HO_0.out [] x8_1 p14008 (by first | exact q14008 | exact of_decide_eq_true (by first | (with_reducible assumption) | assumption) | (have e_ := (Kd.N_reads' HO_0.out).1; omega))
        obtain ⟨ua14008_0, uc14008_0, rfl, ul14008_0, ge14008_0⟩ := Kd.FK_slice_open hMe14008
        have hv14008_0 := hcc14008 0 _ rfl
        rw [Nat.add_zero, show ((Kd.slice 5 (Kd.int .u8))).sz = 1 from rfl, Nat.mul_one] at hv14008_0
        replace hv14008_0 := Option.some.inj (hv14008_0.symm.trans hx14008_0)
        injection hv14008_0 with hva_ hvn_ hvc_
        rw [hva_] at ge14008_0
        rw [hvc_] at ul14008_0
        have HL14008_0 := Aside0.mk (show Kd.V (Kd.int .u8) 5 _ w.heap.size _ _ (rd_L1 t14001 x8_1) from Kd.V_mk ul14008_0 ge14008_0)
        clear hva_ hvn_ hvc_ ge14008_0 ul14008_0
        clear hcc14008 hce14008
        have HR14008_0 := Aside0.mk hi14008_0
        have HC14008_0 := Aside0.mk hl14008_0
        clear hi14008_0 hl14008_0
        replace p14008 := eq_true p14008
        replace q14008 := eq_true q14008
        refine start_ (n := 12) (S := fun w' => w'.cell? ⟨gb14007, 0, none⟩ = some (.slice Ao14 x14008000_1.length co14) ∧ w'.cell? ⟨gb14007, 1, none⟩ = some (.slice Ao15 x14008001_1.length co15) ∧ w'.cell? (ad14008.add (x8_1).toNat) = some (.slice A14008_0 (rd_L1 t14001 x8_1).length c14008_0)) (ds := []) #[false, false, false, false, false, false, false, false, false, false, false, false] (by kernel_rfl) rfl rfl ⟨(blk_cell BK14007.out 0).trans rfl, (blk_cell BK14007.out 1).trans rfl, hx14008_0⟩ (fun hHeld => ?_); refine with_tabW customslaw34_JournalCrash.tab6 customslaw34_JournalCrash.bits6 (fun HT_ HW_ => ?_)
        generalize wr.drew = w16 at HO_0 HO_1 HO_14008000 HO_14008001 BK14007 HB HL14008_0 HR14008_0 hx14008_0 hHeld ⊢
        refine pure_ (i := 1) (N := some 37) (v := ?_) (a' := ?_) #[false, true, false, false, false, false, false, false, false, false, false, false] rfl rfl (any_of HT_.out (by kernel_rfl)) (fun _ _ _ h => h) (Or.inl ⟨by rfl, ?_⟩) ?_ ?_
        rotate_left
        · intro w'
          go_simp
          with_reducible rfl
        rotate_left
        · simp only [Act.put, List.setIfInBounds_toArray, List.set_cons_zero, List.set_cons_succ, i64_w, i32_w]
          rfl
        refine pure_ (i := 2) (N := some 38) (v := ?_) (a' := ?_) #[false, true, true, false, false, false, false, false, false, false, false, false] rfl rfl (any_of HT_.out (by kernel_rfl)) (fun _ _ _ h => h) (Or.inl ⟨by rfl, ?_⟩) ?_ ?_
        rotate_left
        · intro w'
          go_simp
          with_reducible rfl
        rotate_left
        · simp only [Act.put, List.setIfInBounds_toArray, List.set_cons_zero, List.set_cons_succ, i64_w, i32_w]
          rfl
        refine pure_ (i := 3) (N := some 39) (v := ?_) (a' := ?_) #[false, true, true, true, false, false, false, false, false, false, false, false] rfl rfl (any_of HT_.out (by kernel_rfl)) (fun _ _ _ h => h) (Or.inl ⟨by rfl, ?_⟩) ?_ ?_
        rotate_left
        · intro w'
          go_simp
          with_reducible rfl
        rotate_left
        · simp only [Act.put, List.setIfInBounds_toArray, List.set_cons_zero, List.set_cons_succ, i64_w, i32_w]
          rfl
        refine take_ (i := 0) (N := some 36) (v := ?_) (a' := ?_) #[true, true, true, true, false, false, false, false, false, false, false, false] rfl rfl (take_ofW HT_.out HW_.out (by kernel_rfl)) (fun _ _ _ h => h) (Or.inl ⟨by rfl, ?_⟩) hHeld ?_ ?_
        rotate_left
        · rintro w' ⟨s0, s1, s2⟩
          go_simp
          with_reducible rfl
        rotate_left
        · simp only [Act.put, List.setIfInBounds_toArray, List.set_cons_zero, List.set_cons_succ, i64_w, i32_w]
          rfl
        refine take_ (i := 4) (N := some 40) (v := ?_) (a' := ?_) #[true, true, true, true, true, false, false, false, false, false, false, false] rfl rfl (take_ofW HT_.out HW_.out (by kernel_rfl)) (fun _ _ _ h => h) (Or.inl ⟨by rfl, ?_⟩) hHeld ?_ ?_
        rotate_left
        · rintro w' ⟨s0, s1, s2⟩
          go_simp
          with_reducible rfl
        rotate_left
        · simp only [Act.put, List.setIfInBounds_toArray, List.set_cons_zero, List.set_cons_succ, i64_w, i32_w]
          rfl
        refine join_ (σ := Value × Value × Nat) 2 #[true, true, true, true, true, true, true, true, true, true, false, false] (fun s_ => [(41, .tuple #[.agg #[s_.1, s_.2.1], .int .i64 t14015]), (9, .pointer (some ⟨s_.2.2, 0, none⟩)), (35, .tuple #[.agg #[s_.1, s_.2.1], .int .i64 t14015]), (42, .agg #[s_.1, s_.2.1]), (43, .int .i64 t14015)]) (fun s_ w' => (w'.cell? ⟨gb14007, 0, none⟩ = some (.slice Ao14 x14008000_1.length co14) ∧ w'.cell? ⟨gb14007, 1, none⟩ = some (.slice Ao15 x14008001_1.length co15) ∧ w'.cell? (ad14008.add (x8_1).toNat) = some (.slice A14008_0 (rd_L1 t14001 x8_1).length c14008_0)) ∧ (Kd.V (Kd.int .u8) 5 w' w.heap.size (fun k_ => some k_ ≠ (s_.1 : Value).ownBlock ∧ some k_ ≠ (s_.2.1 : Value).ownBlock ∧ some k_ ≠ (.slice (some ad14008) t14001.length co13 : Value).ownBlock ∧ some k_ ≠ (v14005 : Value).ownBlock ∧ some k_ ≠ (.slice Ao14 x14008000_1.length co14 : Value).ownBlock ∧ some k_ ≠ (.slice Ao15 x14008001_1.length co15 : Value).ownBlock ∧ k_ ≠ gb14007 ∧ k_ ≠ s_.2.2) (.slice A14008_0 (rd_L1 t14001 x8_1).length c14008_0) (rd_L1 t14001 x8_1)) ∧ (Kd.R (Kd.int .u8) 5 w' w.heap.size (fun k_ => some k_ ≠ (s_.2.1 : Value).ownBlock ∧ some k_ ≠ (.slice Ao14 x14008000_1.length co14 : Value).ownBlock ∧ some k_ ≠ (.slice Ao15 x14008001_1.length co15 : Value).ownBlock) s_.1 t14009) ∧ (Kd.R (Kd.int .u8) 5 w' w.heap.size (fun k_ => some k_ ≠ (s_.1 : Value).ownBlock ∧ some k_ ≠ (.slice Ao14 x14008000_1.length co14 : Value).ownBlock ∧ some k_ ≠ (.slice Ao15 x14008001_1.length co15 : Value).ownBlock) s_.2.1 t14012) ∧ (Kd.N (Kd.slice 5 (Kd.int .u8)) 22 w' w.heap.size (fun k_ => some k_ ≠ (s_.1 : Value).ownBlock ∧ some k_ ≠ (s_.2.1 : Value).ownBlock ∧ some k_ ≠ (v14005 : Value).ownBlock ∧ some k_ ≠ (.slice Ao14 x14008000_1.length co14 : Value).ownBlock ∧ some k_ ≠ (.slice Ao15 x14008001_1.length co15 : Value).ownBlock ∧ k_ ≠ gb14007 ∧ k_ ≠ s_.2.2) (.slice (some ad14008) t14001.length co13) t14001) ∧ (Kd.N (Kd.slice 5 (Kd.int .u8)) 22 w' w.heap.size (fun k_ => some k_ ≠ (s_.1 : Value).ownBlock ∧ some k_ ≠ (s_.2.1 : Value).ownBlock ∧ some k_ ≠ (.slice (some ad14008) t14001.length co13 : Value).ownBlock ∧ some k_ ≠ (.slice Ao14 x14008000_1.length co14 : Value).ownBlock ∧ some k_ ≠ (.slice Ao15 x14008001_1.length co15 : Value).ownBlock ∧ k_ ≠ gb14007 ∧ k_ ≠ s_.2.2) v14005 t14004) ∧ (Kd.R (Kd.int .u8) 5 w' w.heap.size (fun k_ => some k_ ≠ (s_.1 : Value).ownBlock ∧ some k_ ≠ (s_.2.1 : Value).ownBlock ∧ some k_ ≠ (.slice Ao15 x14008001_1.length co15 : Value).ownBlock) (.slice Ao14 x14008000_1.length co14) x14008000_1) ∧ (Kd.R (Kd.int .u8) 5 w' w.heap.size (fun k_ => some k_ ≠ (s_.1 : Value).ownBlock ∧ some k_ ≠ (s_.2.1 : Value).ownBlock ∧ some k_ ≠ (.slice Ao14 x14008000_1.length co14 : Value).ownBlock) (.slice Ao15 x14008001_1.length co15) x14008001_1) ∧ (w'.heap[gb14007]? = some (.cells #[.slice Ao14 x14008000_1.length co14, .slice Ao15 x14008001_1.length co15] 24 (0, 0))) ∧ (w'.heap[s_.2.2]? = some (.cells #[.slice none 0 0, .slice none 0 0] 24 (0, 0))) ∧ (w.heap.size ≤ s_.2.2) ∧ (w.heap.size ≤ s_.2.2) ∧ (gb14007 ≠ s_.2.2) ∧ (s_.2.2 ≠ gb14007) ∧ (Below w.heap.size w w')) ?_ ?_
        rotate_left
        · intro hCont
          refine two_ (i := 5) (j := 9) (Ni := some 41) (Nj := some 9) #[true, true, true, true, true, true, false, false, false, false, false, false] #[true, true, true, true, true, false, false, false, false, true, false, false] rfl rfl rfl rfl (two_of HT_.out (by kernel_rfl)) (by decide) (by decide) (fun K hK => ?_) (fun K hK => ?_)
          · skip
            refine goes_ Try.func59 (by kernel_rfl) rfl #[.agg #[.slice Ao14 x14008000_1.length co14, .slice Ao15 x14008001_1.length co15], .slice A14008_0 (rd_L1 t14001 x8_1).length c14008_0] (by rfl) rfl rfl (by (try simp only [List.map_toArray, List.map_cons, List.map_nil]); first | done | rfl | (simp only [List.length_drop, List.length_take]; rfl)) ?_
            with_reducible refine (journal_Append.calls k1 _ _ x14008000_1 _ _ x14008001_1 _ _ (rd_L1 t14001 x8_1) t14009 t14012 t14015 _ ?side1 ?side2 ?side3 ?side4 ?side5 ?side6 A11.out).mono ?_
            (case side1 => exact Kd.C_ext (Kd.R_reads' HO_14008000.out).2.2)
            (case side2 => exact (Kd.R_reads' HO_14008000.out).2.1)
            (case side3 => exact Kd.C_ext (Kd.R_reads' HO_14008001.out).2.2)
            (case side4 => exact (Kd.R_reads' HO_14008001.out).2.1)
            (case side5 => repeat (first | exact (by repeat (first | (with_reducible exact HR14008_0.out) | (with_reducible refine Kd.C_alloc ?_ _) | (with_reducible refine Kd.C_drewN ?_ _) | (with_reducible refine Kd.C_drew ?_) | exact HR14008_0.out)) | (with_reducible refine Kd.C_alloc ?_ _) | (with_reducible refine Kd.C_drewN ?_ _) | (with_reducible refine Kd.C_drew ?_)))
            (case side6 => exact HC14008_0.out)
            rintro e w17 ⟨v14010, v14013, rfl, ho0, ho1, hb⟩
            have HS2_ := (hb.cell (World.block_lt_of_cell? _ _ (hHeld.2.2))).trans (hHeld.2.2)
            refine ⟨_, rfl, ?_⟩
            have n5_ := Aside0.mk (Kd.R_lower (Kd.R_new' (Kd.R_new' ho0 (Kd.R_lt (Kd.R_ext HO_14008000.out))) (Kd.R_lt (Kd.R_ext HO_14008001.out))) (below_size (below_extB HB.out)))
            have n6_ := Aside0.mk (Kd.R_lower (Kd.R_new' (Kd.R_new' ho1 (Kd.R_lt (Kd.R_ext HO_14008000.out))) (Kd.R_lt (Kd.R_ext HO_14008001.out))) (below_size (below_extB HB.out)))
            have HO14011 := n5_
            have HO14014 := n6_
            replace HO_0 := tdN2 HO_0 hb (Kd.R_base ho0) (Kd.R_base ho1)
            replace HO_1 := tdN2 HO_1 hb (Kd.R_base ho0) (Kd.R_base ho1)
            replace HO_14008000 := tdR2 HO_14008000 hb (Kd.R_base ho0) (Kd.R_base ho1)
            replace HO_14008001 := tdR2 HO_14008001 hb (Kd.R_base ho0) (Kd.R_base ho1)
            replace HL14008_0 := tdV2 HL14008_0 hb (Kd.R_base ho0) (Kd.R_base ho1)
            replace BK14007 := mvB BK14007 hb
            replace HR14008_0 := mvC HR14008_0 hb
            replace HB := mvH HB hb
            clear n5_ n6_
            (try clear hb)
            (try clear hb2)
            (try clear hk)
            (try clear hi)
            (try clear ho0)
            (try clear ho1)
            refine hK.out _ _ ⟨(blk_cell BK14007.out 0).trans rfl, (blk_cell BK14007.out 1).trans rfl, HS2_⟩ (fun hHeld => ?_)
            clear hK K
            refine norm_ (a' := ?_) ?_ ?_
            rotate_left
            · show Act.put _ (some 41) _ = _
              simp only [Act.put, List.setIfInBounds_toArray, List.set_cons_zero, List.set_cons_succ, i64_w, i32_w]
              rfl
            refine pure_ (i := 6) (N := some 35) (v := ?_) (a' := ?_) #[true, true, true, true, true, true, true, false, false, false, false, false] rfl rfl (any_of HT_.out (by kernel_rfl)) (fun _ _ _ h => h) (Or.inl ⟨by rfl, ?_⟩) ?_ ?_
            rotate_left
            · intro w'
              go_simp
              with_reducible rfl
            rotate_left
            · simp only [Act.put, List.setIfInBounds_toArray, List.set_cons_zero, List.set_cons_succ, i64_w, i32_w]
              rfl
            refine pure_ (i := 7) (N := some 42) (v := ?_) (a' := ?_) #[true, true, true, true, true, true, true, true, false, false, false, false] rfl rfl (any_of HT_.out (by kernel_rfl)) (fun _ _ _ h => h) (Or.inl ⟨by rfl, ?_⟩) ?_ ?_
            rotate_left
            · intro w'
              go_simp
              with_reducible rfl
            rotate_left
            · simp only [Act.put, List.setIfInBounds_toArray, List.set_cons_zero, List.set_cons_succ, i64_w, i32_w]
              rfl
            refine pure_ (i := 8) (N := some 43) (v := ?_) (a' := ?_) #[true, true, true, true, true, true, true, true, true, false, false, false] rfl rfl (any_of HT_.out (by kernel_rfl)) (fun _ _ _ h => h) (Or.inl ⟨by rfl, ?_⟩) ?_ ?_
            rotate_left
            · intro w'
              go_simp
              with_reducible rfl
            rotate_left
            · simp only [Act.put, List.setIfInBounds_toArray, List.set_cons_zero, List.set_cons_succ, i64_w, i32_w]
              rfl
            refine one_ (i := 9) (N := some 9) #[true, true, true, true, true, true, true, true, true, true, false, false] rfl rfl (one_of HT_.out (by kernel_rfl)) (by decide) (fun K hK => ?_)
            refine box_step ?hg (N := 9) ?hd (cs := #[.slice none 0 0, .slice none 0 0]) (t := 24) ?hr ?_; (case hd => rfl); (case hg => rfl); (case hr => first | (go_simp; done) | (go_simp; rfl))
            intro gb14016 hg w18 hbox hb
            have HS2_ := (hb.cell (World.block_lt_of_cell? _ _ (hHeld.2.2))).trans (hHeld.2.2)
            have n10_ := Aside0.mk (hbox)
            have n11_ := Aside0.mk ((by rw [hg]; exact (below_size (below_extB HB.out)) : w.heap.size ≤ gb14016))
            have n12_ := Aside0.mk ((by rw [hg]; exact (below_size (below_extB HB.out)) : w.heap.size ≤ gb14016))
            have n13_ := Aside0.mk ((by rw [hg]; exact Nat.ne_of_lt (blk_lt (blk_ext BK14007.out)) : gb14007 ≠ gb14016))
            have n14_ := Aside0.mk ((by rw [hg]; exact Nat.ne_of_gt (blk_lt (blk_ext BK14007.out)) : gb14016 ≠ gb14007))
            have BK14016 := n10_
            have GW14016 := n11_
            have GE14016 := n12_; have GI14016 := GE_.mk GE14016.out
            have NB14007_14016 := n13_; have NI14007_14016 := NE_.mk NB14007_14016.out
            have NB14016_14007 := n14_; have NI14016_14007 := NE_.mk NB14016_14007.out
            replace HO_0 := awN HO_0 hb gb14016 hg
            replace HO_1 := awN HO_1 hb gb14016 hg
            replace HO_14008000 := mvR HO_14008000 hb
            replace HO_14008001 := mvR HO_14008001 hb
            replace HL14008_0 := awV HL14008_0 hb gb14016 hg
            replace HO14011 := mvR HO14011 hb
            replace HO14014 := mvR HO14014 hb
            replace BK14007 := mvB BK14007 hb
            replace HR14008_0 := mvC HR14008_0 hb
            replace HB := mvH HB hb
            clear n10_ n11_ n12_ n13_ n14_
            clear hb hbox hg
            refine hK.out _ _ ⟨(blk_cell BK14007.out 0).trans rfl, (blk_cell BK14007.out 1).trans rfl, HS2_⟩ (fun hHeld => ?_)
            clear hK K
            refine norm_ (a' := ?_) ?_ ?_
            rotate_left
            · show Act.put _ (some 9) _ = _
              simp only [Act.put, List.setIfInBounds_toArray, List.set_cons_zero, List.set_cons_succ, i64_w, i32_w]
              rfl
            exact norm_ (by simp only [putAll, Act.put, List.setIfInBounds_toArray, List.set_cons_zero, List.set_cons_succ]) (hCont (v14010, v14013, gb14016) _ ⟨hHeld, (Kd.V_ext (Kd.V_mono HL14008_0.out (fun _ hk => ⟨hk.1.1.2, ⟨hk.1.2, ⟨hk.1.1.1.2, ⟨hk.1.1.1.1.1, ⟨hk.1.1.1.1.2.1, ⟨hk.1.1.1.1.2.2.1, ⟨hk.1.1.1.1.2.2.2, hk.2⟩⟩⟩⟩⟩⟩⟩))), (Kd.R_ext (Kd.R_mono HO14011.out (fun _ hk => ⟨hk.1.1, ⟨hk.1.2, hk.2⟩⟩))), (Kd.R_ext (Kd.R_mono HO14014.out (fun _ hk => ⟨hk.1.1, ⟨hk.1.2, hk.2⟩⟩))), (Kd.N_ext (Kd.N_mono HO_0.out (fun _ hk => ⟨hk.1.1.2, ⟨hk.1.2, ⟨hk.1.1.1.1, ⟨hk.1.1.1.2.1, ⟨hk.1.1.1.2.2.1, ⟨hk.1.1.1.2.2.2, hk.2⟩⟩⟩⟩⟩⟩))), (Kd.N_ext (Kd.N_mono HO_1.out (fun _ hk => ⟨hk.1.1.2, ⟨hk.1.2, ⟨hk.1.1.1.1, ⟨hk.1.1.1.2.1, ⟨hk.1.1.1.2.2.1, ⟨hk.1.1.1.2.2.2, hk.2⟩⟩⟩⟩⟩⟩))), (Kd.R_ext (Kd.R_mono HO_14008000.out (fun _ hk => ⟨hk.1.2, ⟨hk.2, hk.1.1⟩⟩))), (Kd.R_ext (Kd.R_mono HO_14008001.out (fun _ hk => ⟨hk.1.2, ⟨hk.2, hk.1.1⟩⟩))), (blk_ext BK14007.out), (blk_ext BK14016.out), GW14016.out, GE14016.out, NB14007_14016.out, NB14016_14007.out, (below_extB HB.out)⟩)
          · skip
            refine box_step ?hg (N := 9) ?hd (cs := #[.slice none 0 0, .slice none 0 0]) (t := 24) ?hr ?_; (case hd => rfl); (case hg => rfl); (case hr => first | (go_simp; done) | (go_simp; rfl))
            intro gb14016 hg w17 hbox hb
            have HS2_ := (hb.cell (World.block_lt_of_cell? _ _ (hHeld.2.2))).trans (hHeld.2.2)
            have n8_ := Aside0.mk (hbox)
            have n9_ := Aside0.mk ((by rw [hg]; exact (below_size (below_extB HB.out)) : w.heap.size ≤ gb14016))
            have n10_ := Aside0.mk ((by rw [hg]; exact (below_size (below_extB HB.out)) : w.heap.size ≤ gb14016))
            have n11_ := Aside0.mk ((by rw [hg]; exact Nat.ne_of_lt (blk_lt (blk_ext BK14007.out)) : gb14007 ≠ gb14016))
            have n12_ := Aside0.mk ((by rw [hg]; exact Nat.ne_of_gt (blk_lt (blk_ext BK14007.out)) : gb14016 ≠ gb14007))
            have BK14016 := n8_
            have GW14016 := n9_
            have GE14016 := n10_; have GI14016 := GE_.mk GE14016.out
            have NB14007_14016 := n11_; have NI14007_14016 := NE_.mk NB14007_14016.out
            have NB14016_14007 := n12_; have NI14016_14007 := NE_.mk NB14016_14007.out
            replace HO_0 := awN HO_0 hb gb14016 hg
            replace HO_1 := awN HO_1 hb gb14016 hg
            replace HO_14008000 := mvR HO_14008000 hb
            replace HO_14008001 := mvR HO_14008001 hb
            replace HL14008_0 := awV HL14008_0 hb gb14016 hg
            replace BK14007 := mvB BK14007 hb
            replace HR14008_0 := mvC HR14008_0 hb
            replace HB := mvH HB hb
            clear n8_ n9_ n10_ n11_ n12_
            clear hb hbox hg
            refine hK.out _ _ ⟨(blk_cell BK14007.out 0).trans rfl, (blk_cell BK14007.out 1).trans rfl, HS2_⟩ (fun hHeld => ?_)
            clear hK K
            refine norm_ (a' := ?_) ?_ ?_
            rotate_left
            · show Act.put _ (some 9) _ = _
              simp only [Act.put, List.setIfInBounds_toArray, List.set_cons_zero, List.set_cons_succ, i64_w, i32_w]
              rfl
            refine one_ (i := 5) (N := some 41) #[true, true, true, true, true, true, false, false, false, true, false, false] rfl rfl (one_of HT_.out (by kernel_rfl)) (by decide) (fun K hK => ?_)
            refine goes_ Try.func59 (by kernel_rfl) rfl #[.agg #[.slice Ao14 x14008000_1.length co14, .slice Ao15 x14008001_1.length co15], .slice A14008_0 (rd_L1 t14001 x8_1).length c14008_0] (by rfl) rfl rfl (by (try simp only [List.map_toArray, List.map_cons, List.map_nil]); first | done | rfl | (simp only [List.length_drop, List.length_take]; rfl)) ?_
            with_reducible refine (journal_Append.calls k1 _ _ x14008000_1 _ _ x14008001_1 _ _ (rd_L1 t14001 x8_1) t14009 t14012 t14015 _ ?side1 ?side2 ?side3 ?side4 ?side5 ?side6 A11.out).mono ?_
            (case side1 => exact Kd.C_ext (Kd.R_reads' HO_14008000.out).2.2)
            (case side2 => exact (Kd.R_reads' HO_14008000.out).2.1)
            (case side3 => exact Kd.C_ext (Kd.R_reads' HO_14008001.out).2.2)
            (case side4 => exact (Kd.R_reads' HO_14008001.out).2.1)
            (case side5 => repeat (first | exact (by repeat (first | (with_reducible exact HR14008_0.out) | (with_reducible refine Kd.C_alloc ?_ _) | (with_reducible refine Kd.C_drewN ?_ _) | (with_reducible refine Kd.C_drew ?_) | exact HR14008_0.out)) | (with_reducible refine Kd.C_alloc ?_ _) | (with_reducible refine Kd.C_drewN ?_ _) | (with_reducible refine Kd.C_drew ?_)))
            (case side6 => exact HC14008_0.out)
            rintro e w18 ⟨v14010, v14013, rfl, ho0, ho1, hb⟩
            have HS2_ := (hb.cell (World.block_lt_of_cell? _ _ (hHeld.2.2))).trans (hHeld.2.2)
            refine ⟨_, rfl, ?_⟩
            have n5_ := Aside0.mk (Kd.R_lower (Kd.R_new' (Kd.R_new' ho0 (Kd.R_lt (Kd.R_ext HO_14008000.out))) (Kd.R_lt (Kd.R_ext HO_14008001.out))) (below_size (below_extB HB.out)))
            have n6_ := Aside0.mk (Kd.R_lower (Kd.R_new' (Kd.R_new' ho1 (Kd.R_lt (Kd.R_ext HO_14008000.out))) (Kd.R_lt (Kd.R_ext HO_14008001.out))) (below_size (below_extB HB.out)))
            have HO14011 := n5_
            have HO14014 := n6_
            replace HO_0 := tdN2 HO_0 hb (Kd.R_base ho0) (Kd.R_base ho1)
            replace HO_1 := tdN2 HO_1 hb (Kd.R_base ho0) (Kd.R_base ho1)
            replace HO_14008000 := tdR2 HO_14008000 hb (Kd.R_base ho0) (Kd.R_base ho1)
            replace HO_14008001 := tdR2 HO_14008001 hb (Kd.R_base ho0) (Kd.R_base ho1)
            replace HL14008_0 := tdV2 HL14008_0 hb (Kd.R_base ho0) (Kd.R_base ho1)
            replace BK14007 := mvB BK14007 hb
            replace HR14008_0 := mvC HR14008_0 hb
            replace BK14016 := mvB BK14016 hb
            replace HB := mvH HB hb
            clear n5_ n6_
            (try clear hb)
            (try clear hb2)
            (try clear hk)
            (try clear hi)
            (try clear ho0)
            (try clear ho1)
            refine hK.out _ _ ⟨(blk_cell BK14007.out 0).trans rfl, (blk_cell BK14007.out 1).trans rfl, HS2_⟩ (fun hHeld => ?_)
            clear hK K
            refine norm_ (a' := ?_) ?_ ?_
            rotate_left
            · show Act.put _ (some 41) _ = _
              simp only [Act.put, List.setIfInBounds_toArray, List.set_cons_zero, List.set_cons_succ, i64_w, i32_w]
              rfl
            refine pure_ (i := 6) (N := some 35) (v := ?_) (a' := ?_) #[true, true, true, true, true, true, true, false, false, true, false, false] rfl rfl (any_of HT_.out (by kernel_rfl)) (fun _ _ _ h => h) (Or.inl ⟨by rfl, ?_⟩) ?_ ?_
            rotate_left
            · intro w'
              go_simp
              with_reducible rfl
            rotate_left
            · simp only [Act.put, List.setIfInBounds_toArray, List.set_cons_zero, List.set_cons_succ, i64_w, i32_w]
              rfl
            refine pure_ (i := 7) (N := some 42) (v := ?_) (a' := ?_) #[true, true, true, true, true, true, true, true, false, true, false, false] rfl rfl (any_of HT_.out (by kernel_rfl)) (fun _ _ _ h => h) (Or.inl ⟨by rfl, ?_⟩) ?_ ?_
            rotate_left
            · intro w'
              go_simp
              with_reducible rfl
            rotate_left
            · simp only [Act.put, List.setIfInBounds_toArray, List.set_cons_zero, List.set_cons_succ, i64_w, i32_w]
              rfl
            refine pure_ (i := 8) (N := some 43) (v := ?_) (a' := ?_) #[true, true, true, true, true, true, true, true, true, true, false, false] rfl rfl (any_of HT_.out (by kernel_rfl)) (fun _ _ _ h => h) (Or.inl ⟨by rfl, ?_⟩) ?_ ?_
            rotate_left
            · intro w'
              go_simp
              with_reducible rfl
            rotate_left
            · simp only [Act.put, List.setIfInBounds_toArray, List.set_cons_zero, List.set_cons_succ, i64_w, i32_w]
              rfl
            exact norm_ (by simp only [putAll, Act.put, List.setIfInBounds_toArray, List.set_cons_zero, List.set_cons_succ]) (hCont (v14010, v14013, gb14016) _ ⟨hHeld, (Kd.V_ext (Kd.V_mono HL14008_0.out (fun _ hk => ⟨hk.1.2, ⟨hk.2, ⟨hk.1.1.1.2, ⟨hk.1.1.1.1.1, ⟨hk.1.1.1.1.2.1, ⟨hk.1.1.1.1.2.2.1, ⟨hk.1.1.1.1.2.2.2, hk.1.1.2⟩⟩⟩⟩⟩⟩⟩))), (Kd.R_ext (Kd.R_mono HO14011.out (fun _ hk => ⟨hk.1.1, ⟨hk.1.2, hk.2⟩⟩))), (Kd.R_ext (Kd.R_mono HO14014.out (fun _ hk => ⟨hk.1.1, ⟨hk.1.2, hk.2⟩⟩))), (Kd.N_ext (Kd.N_mono HO_0.out (fun _ hk => ⟨hk.1.2, ⟨hk.2, ⟨hk.1.1.1.1, ⟨hk.1.1.1.2.1, ⟨hk.1.1.1.2.2.1, ⟨hk.1.1.1.2.2.2, hk.1.1.2⟩⟩⟩⟩⟩⟩))), (Kd.N_ext (Kd.N_mono HO_1.out (fun _ hk => ⟨hk.1.2, ⟨hk.2, ⟨hk.1.1.1.1, ⟨hk.1.1.1.2.1, ⟨hk.1.1.1.2.2.1, ⟨hk.1.1.1.2.2.2, hk.1.1.2⟩⟩⟩⟩⟩⟩))), (Kd.R_ext (Kd.R_mono HO_14008000.out (fun _ hk => ⟨hk.1.2, ⟨hk.2, hk.1.1⟩⟩))), (Kd.R_ext (Kd.R_mono HO_14008001.out (fun _ hk => ⟨hk.1.2, ⟨hk.2, hk.1.1⟩⟩))), (blk_ext BK14007.out), (blk_ext BK14016.out), GW14016.out, GE14016.out, NB14007_14016.out, NB14016_14007.out, (below_extB HB.out)⟩)
        rintro ⟨v14010, v14013, gb14016⟩ w19 ⟨hS_, h0_, h1_, h2_, h3_, h4_, h5_, h6_, h7_, h8_, h9_, h10_, h11_, h12_, h13_⟩
        have n0_ : Aside0 (Kd.V (Kd.int .u8) 5 w19 w.heap.size (fun k_ => some k_ ≠ (v14010 : Value).ownBlock ∧ some k_ ≠ (v14013 : Value).ownBlock ∧ some k_ ≠ (.slice (some ad14008) t14001.length co13 : Value).ownBlock ∧ some k_ ≠ (v14005 : Value).ownBlock ∧ some k_ ≠ (.slice Ao14 x14008000_1.length co14 : Value).ownBlock ∧ some k_ ≠ (.slice Ao15 x14008001_1.length co15 : Value).ownBlock ∧ k_ ≠ gb14007 ∧ k_ ≠ gb14016) (.slice A14008_0 (rd_L1 t14001 x8_1).length c14008_0) (rd_L1 t14001 x8_1)) := ⟨h0_⟩
        have n1_ : Aside0 (Kd.R (Kd.int .u8) 5 w19 w.heap.size (fun k_ => some k_ ≠ (v14013 : Value).ownBlock ∧ some k_ ≠ (.slice Ao14 x14008000_1.length co14 : Value).ownBlock ∧ some k_ ≠ (.slice Ao15 x14008001_1.length co15 : Value).ownBlock) v14010 t14009) := ⟨h1_⟩
        have n2_ : Aside0 (Kd.R (Kd.int .u8) 5 w19 w.heap.size (fun k_ => some k_ ≠ (v14010 : Value).ownBlock ∧ some k_ ≠ (.slice Ao14 x14008000_1.length co14 : Value).ownBlock ∧ some k_ ≠ (.slice Ao15 x14008001_1.length co15 : Value).ownBlock) v14013 t14012) := ⟨h2_⟩
        have n3_ : Aside0 (Kd.N (Kd.slice 5 (Kd.int .u8)) 22 w19 w.heap.size (fun k_ => some k_ ≠ (v14010 : Value).ownBlock ∧ some k_ ≠ (v14013 : Value).ownBlock ∧ some k_ ≠ (v14005 : Value).ownBlock ∧ some k_ ≠ (.slice Ao14 x14008000_1.length co14 : Value).ownBlock ∧ some k_ ≠ (.slice Ao15 x14008001_1.length co15 : Value).ownBlock ∧ k_ ≠ gb14007 ∧ k_ ≠ gb14016) (.slice (some ad14008) t14001.length co13) t14001) := ⟨h3_⟩
        have n4_ : Aside0 (Kd.N (Kd.slice 5 (Kd.int .u8)) 22 w19 w.heap.size (fun k_ => some k_ ≠ (v14010 : Value).ownBlock ∧ some k_ ≠ (v14013 : Value).ownBlock ∧ some k_ ≠ (.slice (some ad14008) t14001.length co13 : Value).ownBlock ∧ some k_ ≠ (.slice Ao14 x14008000_1.length co14 : Value).ownBlock ∧ some k_ ≠ (.slice Ao15 x14008001_1.length co15 : Value).ownBlock ∧ k_ ≠ gb14007 ∧ k_ ≠ gb14016) v14005 t14004) := ⟨h4_⟩
        have n5_ : Aside0 (Kd.R (Kd.int .u8) 5 w19 w.heap.size (fun k_ => some k_ ≠ (v14010 : Value).ownBlock ∧ some k_ ≠ (v14013 : Value).ownBlock ∧ some k_ ≠ (.slice Ao15 x14008001_1.length co15 : Value).ownBlock) (.slice Ao14 x14008000_1.length co14) x14008000_1) := ⟨h5_⟩
        have n6_ : Aside0 (Kd.R (Kd.int .u8) 5 w19 w.heap.size (fun k_ => some k_ ≠ (v14010 : Value).ownBlock ∧ some k_ ≠ (v14013 : Value).ownBlock ∧ some k_ ≠ (.slice Ao14 x14008000_1.length co14 : Value).ownBlock) (.slice Ao15 x14008001_1.length co15) x14008001_1) := ⟨h6_⟩
        have n7_ : Aside0 (w19.heap[gb14007]? = some (.cells #[.slice Ao14 x14008000_1.length co14, .slice Ao15 x14008001_1.length co15] 24 (0, 0))) := ⟨h7_⟩
        have n8_ : Aside0 (w19.heap[gb14016]? = some (.cells #[.slice none 0 0, .slice none 0 0] 24 (0, 0))) := ⟨h8_⟩
        have n9_ : Aside0 (w.heap.size ≤ gb14016) := ⟨h9_⟩
        have n10_ : Aside0 (w.heap.size ≤ gb14016) := ⟨h10_⟩
        have n11_ : Aside0 (gb14007 ≠ gb14016) := ⟨h11_⟩
        have n12_ : Aside0 (gb14016 ≠ gb14007) := ⟨h12_⟩
        have n13_ : Aside0 (Below w.heap.size w w19) := ⟨h13_⟩
        clear HO_0
        clear HO_1
        clear HO_14008000
        clear HO_14008001
        clear BK14007
        clear HB
        clear h0_ h1_ h2_ h3_ h4_ h5_ h6_ h7_ h8_ h9_ h10_ h11_ h12_ h13_
        have HL14008_0 := n0_
        have HO14011 := n1_
        have HO14014 := n2_
        have HO_0 := n3_
        have HO_1 := n4_
        have HO_14008000 := n5_
        have HO_14008001 := n6_
        have BK14007 := n7_
        have BK14016 := n8_
        have GW14016 := n9_
        have GE14016 := n10_; have GI14016 := GE_.mk GE14016.out
        have NB14007_14016 := n11_; have NI14007_14016 := NE_.mk NB14007_14016.out
        have NB14016_14007 := n12_; have NI14016_14007 := NE_.mk NB14016_14007.out
        have HB := n13_
        clear n0_ n1_ n2_ n3_ n4_ n5_ n6_ n7_ n8_ n9_ n10_ n11_ n12_ n13_
        have hHeld : w19.cell? ⟨gb14007, 0, none⟩ = some (.slice Ao14 x14008000_1.length co14) ∧ w19.cell? ⟨gb14007, 1, none⟩ = some (.slice Ao15 x14008001_1.length co15) ∧ w19.cell? (ad14008.add (x8_1).toNat) = some (.slice A14008_0 (rd_L1 t14001 x8_1).length c14008_0) := hS_
        obtain ⟨Ao20, co20, eo20⟩ := Kd.R_slice HO14011.out
        (first | subst eo20 | (injection eo20 with f1_ f2_ f3_; have f4_ := f1_.symm; have f5_ := f3_.symm; clear f1_ f2_ f3_; subst f4_; subst f5_))
        obtain ⟨Ao22, co22, eo22⟩ := Kd.R_slice HO14014.out
        (first | subst eo22 | (injection eo22 with f1_ f2_ f3_; have f4_ := f1_.symm; have f5_ := f3_.symm; clear f1_ f2_ f3_; subst f4_; subst f5_))
        refine norm_ (a' := ?_) ?_ ?_
        rotate_left
        · simp only [putAll, Act.put, List.setIfInBounds_toArray, List.set_cons_zero, List.set_cons_succ]
          rfl
        refine one_ (i := 10) (N := none) #[true, true, true, true, true, true, true, true, true, true, true, false] rfl rfl (one_of HT_.out (by kernel_rfl)) (by decide) (fun K hK => ?_)
        have hs21 : w19.cell? ⟨gb14016, 0, none⟩ = some (.slice none 0 0) := (blk_cell BK14016.out 0).trans rfl
        have hfs21 := blk_frozen BK14016.out 0
        have hns21_0 := NB14007_14016.out
        have hms21_0 := NB14016_14007.out
        have hs23 : w19.cell? ⟨gb14016, 1, none⟩ = some (.slice none 0 0) := (blk_cell BK14016.out 1).trans rfl
        have hfs23 := blk_frozen BK14016.out 1
        have hns23_0 := NB14007_14016.out
        have hms23_0 := NB14016_14007.out
        refine skip_ (w1 := ?_) (by rfl) rfl ?_ ?_
        rotate_left
        · go_simp
          rfl
        refine hK.out _ _ ⟨((cell_far (p := ⟨gb14016, _, none⟩) NB14007_14016.out _).trans (((cell_far (p := ⟨gb14016, _, none⟩) NB14007_14016.out _).trans (hHeld.1)))), ((cell_far (p := ⟨gb14016, _, none⟩) NB14007_14016.out _).trans (((cell_far (p := ⟨gb14016, _, none⟩) NB14007_14016.out _).trans (hHeld.2.1)))), ((cell_far (p := ⟨gb14016, _, none⟩) (by first | exact Kd.own_blk (Kd.N_away HO_0.out (fun _ hk => hk.2.2.2.2.2.2)) | (rw [add_block]; exact Kd.own_blk (Kd.N_away HO_0.out (fun _ hk => hk.2.2.2.2.2.2))) | (show (Addr.add _ _).block ≠ _; rw [add_block]; exact Kd.own_blk (Kd.N_away HO_0.out (fun _ hk => hk.2.2.2.2.2.2))) | (dsimp only; exact Kd.own_blk (Kd.N_away HO_0.out (fun _ hk => hk.2.2.2.2.2.2)))) _).trans (((cell_far (p := ⟨gb14016, _, none⟩) (by first | exact Kd.own_blk (Kd.N_away HO_0.out (fun _ hk => hk.2.2.2.2.2.2)) | (rw [add_block]; exact Kd.own_blk (Kd.N_away HO_0.out (fun _ hk => hk.2.2.2.2.2.2))) | (show (Addr.add _ _).block ≠ _; rw [add_block]; exact Kd.own_blk (Kd.N_away HO_0.out (fun _ hk => hk.2.2.2.2.2.2))) | (dsimp only; exact Kd.own_blk (Kd.N_away HO_0.out (fun _ hk => hk.2.2.2.2.2.2)))) _).trans (hHeld.2.2))))⟩ (fun hHeld => ?_)
        clear hK K
        refine pure_ (i := 11) (N := some 10) (v := ?_) (a' := ?_) #[true, true, true, true, true, true, true, true, true, true, true, true] rfl rfl (any_of HT_.out (by kernel_rfl)) (fun _ _ _ h => h) (Or.inl ⟨by rfl, ?_⟩) ?_ ?_
        rotate_left
        · intro w'
          go_simp
          with_reducible rfl
        rotate_left
        · simp only [Act.put, List.setIfInBounds_toArray, List.set_cons_zero, List.set_cons_succ, i64_w, i32_w]
          rfl
        refine done_ (done_of HT_.out (by kernel_rfl)) ?_
        have hnb24 := NB14016_14007.out
        have hnc24 := NB14007_14016.out
        have hcz25_0 : w19.cell? ⟨gb14016, 0, none⟩ = some (.slice none 0 0) := (blk_cell BK14016.out 0).trans rfl
        have hcz25_1 : w19.cell? ⟨gb14016, 1, none⟩ = some (.slice none 0 0) := (blk_cell BK14016.out 1).trans rfl
        have hfz25_0 := blk_frozen BK14016.out 0
        have hfz25_1 := blk_frozen BK14016.out 1
        have hcz26_0 : w19.cell? ⟨gb14007, 0, none⟩ = some (.slice Ao14 x14008000_1.length co14) := (blk_cell BK14007.out 0).trans rfl
        have hcz26_1 : w19.cell? ⟨gb14007, 1, none⟩ = some (.slice Ao15 x14008001_1.length co15) := (blk_cell BK14007.out 1).trans rfl
        have hfz26_0 := blk_frozen BK14007.out 0
        have hfz26_1 := blk_frozen BK14007.out 1
        try go_wp2
        go_roundg k1
        case measure => have := HK1.out; omega
        case rel => exact ⟨(wrap64 (x8_1 + 1)), (t14009), (t14012), (.slice Ao20 t14009.length co20), (.slice Ao22 t14012.length co22), (by first | rfl | (simp; done) | (simp [*]; done)), H', ⟨by have := HK1.out; omega⟩, ⟨Kd.N_ext (Kd.N_mono (Kd.N_far (p := ⟨gb14007, 1, none⟩) (Kd.N_far (p := ⟨gb14007, 0, none⟩) (Kd.N_far (p := ⟨gb14016, 1, none⟩) (Kd.N_far (p := ⟨gb14016, 0, none⟩) (Kd.N_mono (Kd.N_mono HO_0.out (fun k_ hk => (⟨hk, hk.2.2.2.2.2.2⟩ : _ ∧ k_ ≠ gb14016))) (fun k_ hk => (⟨hk, hk.1.2.2.2.2.2.1⟩ : _ ∧ k_ ≠ gb14007))) (fun _ hk => hk.1.2) (.slice Ao20 t14009.length co20)) (fun _ hk => hk.1.2) (.slice Ao22 t14012.length co22)) (fun _ hk => hk.2) (.slice Ao20 t14009.length co20)) (fun _ hk => hk.2) (.slice Ao22 t14012.length co22)) (fun _ hk => ⟨hk.1.1.2.2.1, ⟨hk.1.1.1, ⟨hk.1.1.2.1, hk.1.1.2.2.2.2.2.1⟩⟩⟩))⟩, ⟨Kd.N_ext (Kd.N_mono (Kd.N_far (p := ⟨gb14007, 1, none⟩) (Kd.N_far (p := ⟨gb14007, 0, none⟩) (Kd.N_far (p := ⟨gb14016, 1, none⟩) (Kd.N_far (p := ⟨gb14016, 0, none⟩) (Kd.N_mono (Kd.N_mono HO_1.out (fun k_ hk => (⟨hk, hk.2.2.2.2.2.2⟩ : _ ∧ k_ ≠ gb14016))) (fun k_ hk => (⟨hk, hk.1.2.2.2.2.2.1⟩ : _ ∧ k_ ≠ gb14007))) (fun _ hk => hk.1.2) (.slice Ao20 t14009.length co20)) (fun _ hk => hk.1.2) (.slice Ao22 t14012.length co22)) (fun _ hk => hk.2) (.slice Ao20 t14009.length co20)) (fun _ hk => hk.2) (.slice Ao22 t14012.length co22)) (fun _ hk => ⟨hk.1.1.2.2.1, ⟨hk.1.1.1, ⟨hk.1.1.2.1, hk.1.1.2.2.2.2.2.1⟩⟩⟩))⟩, ⟨Kd.R_ext (Kd.R_mono (Kd.R_far (p := ⟨gb14007, 1, none⟩) (Kd.R_far (p := ⟨gb14007, 0, none⟩) (Kd.R_far (p := ⟨gb14016, 1, none⟩) (Kd.R_far (p := ⟨gb14016, 0, none⟩) (Kd.R_types (Kd.R_types HO14011.out BK14016.out (by decide)) BK14007.out (by decide)) (fun _ hk => hk.1.2) (.slice Ao20 t14009.length co20)) (fun _ hk => hk.1.2) (.slice Ao22 t14012.length co22)) (fun _ hk => hk.2) (.slice Ao20 t14009.length co20)) (fun _ hk => hk.2) (.slice Ao22 t14012.length co22)) (fun _ hk => hk.1.1.1))⟩, ⟨Kd.R_ext (Kd.R_mono (Kd.R_far (p := ⟨gb14007, 1, none⟩) (Kd.R_far (p := ⟨gb14007, 0, none⟩) (Kd.R_far (p := ⟨gb14016, 1, none⟩) (Kd.R_far (p := ⟨gb14016, 0, none⟩) (Kd.R_types (Kd.R_types HO14014.out BK14016.out (by decide)) BK14007.out (by decide)) (fun _ hk => hk.1.2) (.slice Ao20 t14009.length co20)) (fun _ hk => hk.1.2) (.slice Ao22 t14012.length co22)) (fun _ hk => hk.2) (.slice Ao20 t14009.length co20)) (fun _ hk => hk.2) (.slice Ao22 t14012.length co22)) (fun _ hk => hk.1.1.1))⟩, ⟨by (with_reducible repeat (first | refine blk_drewN ?_ _ | refine blk_drew ?_ | refine blk_alloc ?_ _)); refine blk_put (cs := #[.slice Ao20 t14009.length co20, .slice Ao15 x14008001_1.length co15]) ?_ 1 _ rfl; (with_reducible repeat (first | refine blk_drewN ?_ _ | refine blk_drew ?_ | refine blk_alloc ?_ _)); refine blk_put (cs := #[.slice Ao14 x14008000_1.length co14, .slice Ao15 x14008001_1.length co15]) ?_ 0 _ rfl; (with_reducible repeat (first | refine blk_drewN ?_ _ | refine blk_drew ?_ | refine blk_alloc ?_ _)); refine blk_far ?_ NB14007_14016.out _; (with_reducible repeat (first | refine blk_drewN ?_ _ | refine blk_drew ?_ | refine blk_alloc ?_ _)); refine blk_far ?_ NB14007_14016.out _; exact blk_ext BK14007.out⟩, ⟨below_extB HB.out⟩⟩
      · rw [if_neg c9] at H
        have c9b0 : decide (x8_1 < (t14001.length : Int)) = false := decide_eq_false c9
        clear c9
        have H' := Aside0.mk H
        clear H
        obtain ⟨Ao27, co27, eo27⟩ := Kd.N_slice HO_0.out
        subst eo27
        go_wp2
        go_loopg [11] k1 (fun kq v11 w' => ∃ (x11_2 : Int) (x14008000_2 : List Int) (x14008001_2 : List Int) (u14008000 : Value) (u14008001 : Value), v11 = .int .i64 x11_2 ∧ Aside0 (customslaw34_JournalCrash.l1 kq t14001 t14004 a2 x11_2 x14008000_2 x14008001_2 = some r) ∧ Aside0 (kq ≤ k1) ∧ Aside0 (Kd.N (Kd.slice 5 (Kd.int .u8)) 22 w' w.heap.size (fun k_ => some k_ ≠ (v14005 : Value).ownBlock ∧ some k_ ≠ (u14008000 : Value).ownBlock ∧ some k_ ≠ (u14008001 : Value).ownBlock ∧ k_ ≠ gb14007) (.slice Ao27 t14001.length co27) t14001) ∧ Aside0 (Kd.N (Kd.slice 5 (Kd.int .u8)) 22 w' w.heap.size (fun k_ => some k_ ≠ ((.slice Ao27 t14001.length co27) : Value).ownBlock ∧ some k_ ≠ (u14008000 : Value).ownBlock ∧ some k_ ≠ (u14008001 : Value).ownBlock ∧ k_ ≠ gb14007) v14005 t14004) ∧ Aside0 (Kd.R (Kd.int .u8) 5 w' w.heap.size (fun k_ => some k_ ≠ (u14008001 : Value).ownBlock) u14008000 x14008000_2) ∧ Aside0 (Kd.R (Kd.int .u8) 5 w' w.heap.size (fun k_ => some k_ ≠ (u14008000 : Value).ownBlock) u14008001 x14008001_2) ∧ Aside0 (w'.heap[gb14007]? = some (.cells #[u14008000, u14008001] 24 (0, 0))) ∧ Aside0 (Below w.heap.size w w'))
        case atStart => exact ⟨(0), (x14008000_1), (x14008001_1), (u14008000), (u14008001), (by first | rfl | (simp; done) | (simp [*]; done)), H', ⟨Nat.le_refl _⟩, ⟨Kd.N_ext HO_0.out⟩, ⟨Kd.N_ext HO_1.out⟩, ⟨Kd.R_ext HO_14008000.out⟩, ⟨Kd.R_ext HO_14008001.out⟩, ⟨blk_ext BK14007.out⟩, ⟨below_extB HB.out⟩⟩
        case round =>
          clear H'
          try clear c1
          try clear p1
          try clear q1
          try clear hx1
          try clear c2
          try clear p2
          try clear c5
          try clear p6
          try clear c9
          try clear c9b0
          try clear c10
          try clear c10b0
          try clear c12
          try clear c12b0
          try clear c12b1
          try clear c14
          try clear p14
          try clear q14
          try clear hx14
          try clear c24
          try clear hcz25_0
          try clear hcz25_1
          try clear hcz26_0
          try clear hcz26_1
          try clear hfz25_0
          try clear hfz25_1
          try clear hfz26_0
          try clear hfz26_1
          try clear hx14008_0
          try clear p14008
          try clear p2
          try clear q14008
          obtain ⟨x11_2, x14008000_2, x14008001_2, u14008000, u14008001, rfl, HA, HK2, HO_0, HO_1, HO_14008000, HO_14008001, BK14007, HB⟩ := hrel
          cases gk with
          | zero => exact absurd HA.out (by simp [customslaw34_JournalCrash.l1])
          | succ k2 =>
            have H := HA.out
            clear HA
            simp only [customslaw34_JournalCrash.l1] at H
            by_cases c28 : x11_2 < (t14004.length : Int)
            · rw [if_pos c28] at H
              have c28b0 : decide (x11_2 < (t14004.length : Int)) = true := decide_eq_true c28
              clear c28
              replace H := if_some H; obtain ⟨c29, H⟩ := H
              have c29b0 : decide (0 ≤ x11_2) = true := decide_eq_true c29
              clear c29
              replace H := Option.bind_eq_some_iff.mp H
              obtain ⟨⟨t14018, t14021, t14024⟩, A300, H⟩ := H
              try dsimp only at H
              have A30 := Aside0.mk A300
              clear A300
              replace H := if_some H; obtain ⟨c31, H⟩ := H
              have c31b0 : (t14024 == 0) = true := beq_iff_eq.mpr c31
              have c31b1 : (t14024 != 0) = false := bne_eq_false_iff_eq.mpr c31
              clear c31
              have H' := Aside0.mk H
              clear H
              obtain ⟨Ao32, co32, eo32⟩ := Kd.N_slice HO_1.out
              subst eo32
              obtain ⟨Ao33, co33, eo33⟩ := Kd.R_slice HO_14008000.out
              subst eo33
              obtain ⟨Ao34, co34, eo34⟩ := Kd.R_slice HO_14008001.out
              subst eo34
              try go_wp2
              have n0_ := Aside0.mk (Kd.N_drew HO_0.out)
              have n1_ := Aside0.mk (Kd.N_drew HO_1.out)
              have n2_ := Aside0.mk (Kd.R_drew HO_14008000.out)
              have n3_ := Aside0.mk (Kd.R_drew HO_14008001.out)
              have n4_ := Aside0.mk (blk_drew BK14007.out)
              have n5_ := Aside0.mk (below_drew1 HB.out)
              clear HO_0
              clear HO_1
              clear HO_14008000
              clear HO_14008001
              clear BK14007
              clear HB
              have HO_0 := n0_
              have HO_1 := n1_
              have HO_14008000 := n2_
              have HO_14008001 := n3_
              have BK14007 := n4_
              have HB := n5_
              clear n0_ n1_ n2_ n3_ n4_ n5_
              have p14017 : 0 ≤ (x11_2 : Int) := of_decide_eq_true (by first | (with_reducible assumption) | assumption)
              have q14017 : x11_2 < (t14004.length : Int) := of_decide_eq_true (by first | (with_reducible assumption) | assumption)
              obtain ⟨ad14017, A14017_0, c14017_0, e14017, hx14017_0, hl14017_0, hi14017_0⟩ := at_L1 (Kd.N_reads' HO_1.out).2.2 x11_2 p14017 q14017
              cases e14017
              obtain ⟨ce14017, hce14017, hMe14017, hcc14017⟩ := Kd.N_get HO_1.out [] x11_2 p14017 (by first | exact q14017 | exact of_decide_eq_true (by first | (with_reducible assumption) | assumption) | (have e_ := (Kd.N_reads' HO_1.out).1; omega))
              obtain ⟨ua14017_0, uc14017_0, rfl, ul14017_0, ge14017_0⟩ := Kd.FK_slice_open hMe14017
              have hv14017_0 := hcc14017 0 _ rfl
              rw [Nat.add_zero, show ((Kd.slice 5 (Kd.int .u8))).sz = 1 from rfl, Nat.mul_one] at hv14017_0
              replace hv14017_0 := Option.some.inj (hv14017_0.symm.trans hx14017_0)
              injection hv14017_0 with hva_ hvn_ hvc_
              rw [hva_] at ge14017_0
              rw [hvc_] at ul14017_0
              have HL14017_0 := Aside0.mk (show Kd.V (Kd.int .u8) 5 _ w.heap.size _ _ (rd_L1 t14004 x11_2) from Kd.V_mk ul14017_0 ge14017_0)
              clear hva_ hvn_ hvc_ ge14017_0 ul14017_0
              clear hcc14017 hce14017
              have HR14017_0 := Aside0.mk hi14017_0
              have HC14017_0 := Aside0.mk hl14017_0
              clear hi14017_0 hl14017_0
              replace p14017 := eq_true p14017
              replace q14017 := eq_true q14017
              refine start_ (n := 13) (S := fun w' => w'.cell? ⟨gb14007, 0, none⟩ = some (.slice Ao33 x14008000_2.length co33) ∧ w'.cell? ⟨gb14007, 1, none⟩ = some (.slice Ao34 x14008001_2.length co34) ∧ w'.cell? (ad14017.add (x11_2).toNat) = some (.slice A14017_0 (rd_L1 t14004 x11_2).length c14017_0)) (ds := []) #[false, false, false, false, false, false, false, false, false, false, false, false, false] (by kernel_rfl) rfl rfl ⟨(blk_cell BK14007.out 0).trans rfl, (blk_cell BK14007.out 1).trans rfl, hx14017_0⟩ (fun hHeld => ?_); refine with_tabW customslaw34_JournalCrash.tab13 customslaw34_JournalCrash.bits13 (fun HT_ HW_ => ?_)
              generalize wr.drew = w35 at HO_0 HO_1 HO_14008000 HO_14008001 BK14007 HB HL14017_0 HR14017_0 hx14017_0 hHeld ⊢
              refine pure_ (i := 1) (N := some 55) (v := ?_) (a' := ?_) #[false, true, false, false, false, false, false, false, false, false, false, false, false] rfl rfl (any_of HT_.out (by kernel_rfl)) (fun _ _ _ h => h) (Or.inl ⟨by rfl, ?_⟩) ?_ ?_
              rotate_left
              · intro w'
                go_simp
                with_reducible rfl
              rotate_left
              · simp only [Act.put, List.setIfInBounds_toArray, List.set_cons_zero, List.set_cons_succ, i64_w, i32_w]
                rfl
              refine pure_ (i := 2) (N := some 56) (v := ?_) (a' := ?_) #[false, true, true, false, false, false, false, false, false, false, false, false, false] rfl rfl (any_of HT_.out (by kernel_rfl)) (fun _ _ _ h => h) (Or.inl ⟨by rfl, ?_⟩) ?_ ?_
              rotate_left
              · intro w'
                go_simp
                with_reducible rfl
              rotate_left
              · simp only [Act.put, List.setIfInBounds_toArray, List.set_cons_zero, List.set_cons_succ, i64_w, i32_w]
                rfl
              refine pure_ (i := 3) (N := some 57) (v := ?_) (a' := ?_) #[false, true, true, true, false, false, false, false, false, false, false, false, false] rfl rfl (any_of HT_.out (by kernel_rfl)) (fun _ _ _ h => h) (Or.inl ⟨by rfl, ?_⟩) ?_ ?_
              rotate_left
              · intro w'
                go_simp
                with_reducible rfl
              rotate_left
              · simp only [Act.put, List.setIfInBounds_toArray, List.set_cons_zero, List.set_cons_succ, i64_w, i32_w]
                rfl
              refine take_ (i := 0) (N := some 54) (v := ?_) (a' := ?_) #[true, true, true, true, false, false, false, false, false, false, false, false, false] rfl rfl (take_ofW HT_.out HW_.out (by kernel_rfl)) (fun _ _ _ h => h) (Or.inl ⟨by rfl, ?_⟩) hHeld ?_ ?_
              rotate_left
              · rintro w' ⟨s0, s1, s2⟩
                go_simp
                with_reducible rfl
              rotate_left
              · simp only [Act.put, List.setIfInBounds_toArray, List.set_cons_zero, List.set_cons_succ, i64_w, i32_w]
                rfl
              refine take_ (i := 4) (N := some 58) (v := ?_) (a' := ?_) #[true, true, true, true, true, false, false, false, false, false, false, false, false] rfl rfl (take_ofW HT_.out HW_.out (by kernel_rfl)) (fun _ _ _ h => h) (Or.inl ⟨by rfl, ?_⟩) hHeld ?_ ?_
              rotate_left
              · rintro w' ⟨s0, s1, s2⟩
                go_simp
                with_reducible rfl
              rotate_left
              · simp only [Act.put, List.setIfInBounds_toArray, List.set_cons_zero, List.set_cons_succ, i64_w, i32_w]
                rfl
              refine pure_ (i := 5) (N := some 59) (v := ?_) (a' := ?_) #[true, true, true, true, true, true, false, false, false, false, false, false, false] rfl rfl (any_of HT_.out (by kernel_rfl)) (fun _ _ _ h => h) (Or.inl ⟨by rfl, ?_⟩) ?_ ?_
              rotate_left
              · intro w'
                go_simp
                with_reducible rfl
              rotate_left
              · simp only [Act.put, List.setIfInBounds_toArray, List.set_cons_zero, List.set_cons_succ, i64_w, i32_w]
                rfl
              refine join_ (σ := Value × Value × Nat) 2 #[true, true, true, true, true, true, true, true, true, true, true, false, false] (fun s_ => [(60, .tuple #[.agg #[s_.1, s_.2.1], .int .i64 t14024]), (12, .pointer (some ⟨s_.2.2, 0, none⟩)), (53, .tuple #[.agg #[s_.1, s_.2.1], .int .i64 t14024]), (61, .agg #[s_.1, s_.2.1]), (62, .int .i64 t14024)]) (fun s_ w' => (w'.cell? ⟨gb14007, 0, none⟩ = some (.slice Ao33 x14008000_2.length co33) ∧ w'.cell? ⟨gb14007, 1, none⟩ = some (.slice Ao34 x14008001_2.length co34) ∧ w'.cell? (ad14017.add (x11_2).toNat) = some (.slice A14017_0 (rd_L1 t14004 x11_2).length c14017_0)) ∧ (Kd.V (Kd.int .u8) 5 w' w.heap.size (fun k_ => some k_ ≠ (s_.1 : Value).ownBlock ∧ some k_ ≠ (s_.2.1 : Value).ownBlock ∧ some k_ ≠ (.slice Ao27 t14001.length co27 : Value).ownBlock ∧ some k_ ≠ (.slice (some ad14017) t14004.length co32 : Value).ownBlock ∧ some k_ ≠ (.slice Ao33 x14008000_2.length co33 : Value).ownBlock ∧ some k_ ≠ (.slice Ao34 x14008001_2.length co34 : Value).ownBlock ∧ k_ ≠ gb14007 ∧ k_ ≠ s_.2.2) (.slice A14017_0 (rd_L1 t14004 x11_2).length c14017_0) (rd_L1 t14004 x11_2)) ∧ (Kd.R (Kd.int .u8) 5 w' w.heap.size (fun k_ => some k_ ≠ (s_.2.1 : Value).ownBlock ∧ some k_ ≠ (.slice Ao33 x14008000_2.length co33 : Value).ownBlock ∧ some k_ ≠ (.slice Ao34 x14008001_2.length co34 : Value).ownBlock) s_.1 t14018) ∧ (Kd.R (Kd.int .u8) 5 w' w.heap.size (fun k_ => some k_ ≠ (s_.1 : Value).ownBlock ∧ some k_ ≠ (.slice Ao33 x14008000_2.length co33 : Value).ownBlock ∧ some k_ ≠ (.slice Ao34 x14008001_2.length co34 : Value).ownBlock) s_.2.1 t14021) ∧ (Kd.N (Kd.slice 5 (Kd.int .u8)) 22 w' w.heap.size (fun k_ => some k_ ≠ (s_.1 : Value).ownBlock ∧ some k_ ≠ (s_.2.1 : Value).ownBlock ∧ some k_ ≠ (.slice (some ad14017) t14004.length co32 : Value).ownBlock ∧ some k_ ≠ (.slice Ao33 x14008000_2.length co33 : Value).ownBlock ∧ some k_ ≠ (.slice Ao34 x14008001_2.length co34 : Value).ownBlock ∧ k_ ≠ gb14007 ∧ k_ ≠ s_.2.2) (.slice Ao27 t14001.length co27) t14001) ∧ (Kd.N (Kd.slice 5 (Kd.int .u8)) 22 w' w.heap.size (fun k_ => some k_ ≠ (s_.1 : Value).ownBlock ∧ some k_ ≠ (s_.2.1 : Value).ownBlock ∧ some k_ ≠ (.slice Ao27 t14001.length co27 : Value).ownBlock ∧ some k_ ≠ (.slice Ao33 x14008000_2.length co33 : Value).ownBlock ∧ some k_ ≠ (.slice Ao34 x14008001_2.length co34 : Value).ownBlock ∧ k_ ≠ gb14007 ∧ k_ ≠ s_.2.2) (.slice (some ad14017) t14004.length co32) t14004) ∧ (Kd.R (Kd.int .u8) 5 w' w.heap.size (fun k_ => some k_ ≠ (s_.1 : Value).ownBlock ∧ some k_ ≠ (s_.2.1 : Value).ownBlock ∧ some k_ ≠ (.slice Ao34 x14008001_2.length co34 : Value).ownBlock) (.slice Ao33 x14008000_2.length co33) x14008000_2) ∧ (Kd.R (Kd.int .u8) 5 w' w.heap.size (fun k_ => some k_ ≠ (s_.1 : Value).ownBlock ∧ some k_ ≠ (s_.2.1 : Value).ownBlock ∧ some k_ ≠ (.slice Ao33 x14008000_2.length co33 : Value).ownBlock) (.slice Ao34 x14008001_2.length co34) x14008001_2) ∧ (w'.heap[gb14007]? = some (.cells #[.slice Ao33 x14008000_2.length co33, .slice Ao34 x14008001_2.length co34] 24 (0, 0))) ∧ (w'.heap[s_.2.2]? = some (.cells #[.slice none 0 0, .slice none 0 0] 24 (0, 0))) ∧ (w.heap.size ≤ s_.2.2) ∧ (w.heap.size ≤ s_.2.2) ∧ (gb14007 ≠ s_.2.2) ∧ (s_.2.2 ≠ gb14007) ∧ (Below w.heap.size w w')) ?_ ?_
              rotate_left
              · intro hCont
                refine two_ (i := 6) (j := 10) (Ni := some 60) (Nj := some 12) #[true, true, true, true, true, true, true, false, false, false, false, false, false] #[true, true, true, true, true, true, false, false, false, false, true, false, false] rfl rfl rfl rfl (two_of HT_.out (by kernel_rfl)) (by decide) (by decide) (fun K hK => ?_) (fun K hK => ?_)
                · skip
                  refine goes_ Try.func58 (by kernel_rfl) rfl #[.agg #[.slice Ao33 x14008000_2.length co33, .slice Ao34 x14008001_2.length co34], .agg #[.int .i64 1, .slice A14017_0 (rd_L1 t14004 x11_2).length c14017_0]] (by rfl) rfl rfl (by (try simp only [List.map_toArray, List.map_cons, List.map_nil]); first | done | rfl | (simp only [List.length_drop, List.length_take]; rfl)) ?_
                  with_reducible refine (journal_Put.calls k2 _ _ x14008000_2 _ _ x14008001_2 1 _ _ (rd_L1 t14004 x11_2) t14018 t14021 t14024 _ ?side1 ?side2 ?side3 ?side4 ?side5 ?side6 A30.out).mono ?_
                  (case side1 => exact Kd.C_ext (Kd.R_reads' HO_14008000.out).2.2)
                  (case side2 => exact (Kd.R_reads' HO_14008000.out).2.1)
                  (case side3 => exact Kd.C_ext (Kd.R_reads' HO_14008001.out).2.2)
                  (case side4 => exact (Kd.R_reads' HO_14008001.out).2.1)
                  (case side5 => repeat (first | exact (by repeat (first | (with_reducible exact HR14017_0.out) | (with_reducible refine Kd.C_alloc ?_ _) | (with_reducible refine Kd.C_drewN ?_ _) | (with_reducible refine Kd.C_drew ?_) | exact HR14017_0.out)) | (with_reducible refine Kd.C_alloc ?_ _) | (with_reducible refine Kd.C_drewN ?_ _) | (with_reducible refine Kd.C_drew ?_)))
                  (case side6 => exact HC14017_0.out)
                  rintro e w36 ⟨v14019, v14022, rfl, ho0, ho1, hb⟩
                  have HS2_ := (hb.cell (World.block_lt_of_cell? _ _ (hHeld.2.2))).trans (hHeld.2.2)
                  refine ⟨_, rfl, ?_⟩
                  have n5_ := Aside0.mk (Kd.R_lower (Kd.R_new' (Kd.R_new' ho0 (Kd.R_lt (Kd.R_ext HO_14008000.out))) (Kd.R_lt (Kd.R_ext HO_14008001.out))) (below_size (below_extB HB.out)))
                  have n6_ := Aside0.mk (Kd.R_lower (Kd.R_new' (Kd.R_new' ho1 (Kd.R_lt (Kd.R_ext HO_14008000.out))) (Kd.R_lt (Kd.R_ext HO_14008001.out))) (below_size (below_extB HB.out)))
                  have HO14020 := n5_
                  have HO14023 := n6_
                  replace HO_0 := tdN2 HO_0 hb (Kd.R_base ho0) (Kd.R_base ho1)
                  replace HO_1 := tdN2 HO_1 hb (Kd.R_base ho0) (Kd.R_base ho1)
                  replace HO_14008000 := tdR2 HO_14008000 hb (Kd.R_base ho0) (Kd.R_base ho1)
                  replace HO_14008001 := tdR2 HO_14008001 hb (Kd.R_base ho0) (Kd.R_base ho1)
                  replace HL14017_0 := tdV2 HL14017_0 hb (Kd.R_base ho0) (Kd.R_base ho1)
                  replace BK14007 := mvB BK14007 hb
                  replace HR14017_0 := mvC HR14017_0 hb
                  replace HB := mvH HB hb
                  clear n5_ n6_
                  (try clear hb)
                  (try clear hb2)
                  (try clear hk)
                  (try clear hi)
                  (try clear ho0)
                  (try clear ho1)
                  refine hK.out _ _ ⟨(blk_cell BK14007.out 0).trans rfl, (blk_cell BK14007.out 1).trans rfl, HS2_⟩ (fun hHeld => ?_)
                  clear hK K
                  refine norm_ (a' := ?_) ?_ ?_
                  rotate_left
                  · show Act.put _ (some 60) _ = _
                    simp only [Act.put, List.setIfInBounds_toArray, List.set_cons_zero, List.set_cons_succ, i64_w, i32_w]
                    rfl
                  refine pure_ (i := 7) (N := some 53) (v := ?_) (a' := ?_) #[true, true, true, true, true, true, true, true, false, false, false, false, false] rfl rfl (any_of HT_.out (by kernel_rfl)) (fun _ _ _ h => h) (Or.inl ⟨by rfl, ?_⟩) ?_ ?_
                  rotate_left
                  · intro w'
                    go_simp
                    with_reducible rfl
                  rotate_left
                  · simp only [Act.put, List.setIfInBounds_toArray, List.set_cons_zero, List.set_cons_succ, i64_w, i32_w]
                    rfl
                  refine pure_ (i := 8) (N := some 61) (v := ?_) (a' := ?_) #[true, true, true, true, true, true, true, true, true, false, false, false, false] rfl rfl (any_of HT_.out (by kernel_rfl)) (fun _ _ _ h => h) (Or.inl ⟨by rfl, ?_⟩) ?_ ?_
                  rotate_left
                  · intro w'
                    go_simp
                    with_reducible rfl
                  rotate_left
                  · simp only [Act.put, List.setIfInBounds_toArray, List.set_cons_zero, List.set_cons_succ, i64_w, i32_w]
                    rfl
                  refine pure_ (i := 9) (N := some 62) (v := ?_) (a' := ?_) #[true, true, true, true, true, true, true, true, true, true, false, false, false] rfl rfl (any_of HT_.out (by kernel_rfl)) (fun _ _ _ h => h) (Or.inl ⟨by rfl, ?_⟩) ?_ ?_
                  rotate_left
                  · intro w'
                    go_simp
                    with_reducible rfl
                  rotate_left
                  · simp only [Act.put, List.setIfInBounds_toArray, List.set_cons_zero, List.set_cons_succ, i64_w, i32_w]
                    rfl
                  refine one_ (i := 10) (N := some 12) #[true, true, true, true, true, true, true, true, true, true, true, false, false] rfl rfl (one_of HT_.out (by kernel_rfl)) (by decide) (fun K hK => ?_)
                  refine box_step ?hg (N := 12) ?hd (cs := #[.slice none 0 0, .slice none 0 0]) (t := 24) ?hr ?_; (case hd => rfl); (case hg => rfl); (case hr => first | (go_simp; done) | (go_simp; rfl))
                  intro gb14025 hg w37 hbox hb
                  have HS2_ := (hb.cell (World.block_lt_of_cell? _ _ (hHeld.2.2))).trans (hHeld.2.2)
                  have n10_ := Aside0.mk (hbox)
                  have n11_ := Aside0.mk ((by rw [hg]; exact (below_size (below_extB HB.out)) : w.heap.size ≤ gb14025))
                  have n12_ := Aside0.mk ((by rw [hg]; exact (below_size (below_extB HB.out)) : w.heap.size ≤ gb14025))
                  have n13_ := Aside0.mk ((by rw [hg]; exact Nat.ne_of_lt (blk_lt (blk_ext BK14007.out)) : gb14007 ≠ gb14025))
                  have n14_ := Aside0.mk ((by rw [hg]; exact Nat.ne_of_gt (blk_lt (blk_ext BK14007.out)) : gb14025 ≠ gb14007))
                  have BK14025 := n10_
                  have GW14025 := n11_
                  have GE14025 := n12_; have GI14025 := GE_.mk GE14025.out
                  have NB14007_14025 := n13_; have NI14007_14025 := NE_.mk NB14007_14025.out
                  have NB14025_14007 := n14_; have NI14025_14007 := NE_.mk NB14025_14007.out
                  replace HO_0 := awN HO_0 hb gb14025 hg
                  replace HO_1 := awN HO_1 hb gb14025 hg
                  replace HO_14008000 := mvR HO_14008000 hb
                  replace HO_14008001 := mvR HO_14008001 hb
                  replace HL14017_0 := awV HL14017_0 hb gb14025 hg
                  replace HO14020 := mvR HO14020 hb
                  replace HO14023 := mvR HO14023 hb
                  replace BK14007 := mvB BK14007 hb
                  replace HR14017_0 := mvC HR14017_0 hb
                  replace HB := mvH HB hb
                  clear n10_ n11_ n12_ n13_ n14_
                  clear hb hbox hg
                  refine hK.out _ _ ⟨(blk_cell BK14007.out 0).trans rfl, (blk_cell BK14007.out 1).trans rfl, HS2_⟩ (fun hHeld => ?_)
                  clear hK K
                  refine norm_ (a' := ?_) ?_ ?_
                  rotate_left
                  · show Act.put _ (some 12) _ = _
                    simp only [Act.put, List.setIfInBounds_toArray, List.set_cons_zero, List.set_cons_succ, i64_w, i32_w]
                    rfl
                  exact norm_ (by simp only [putAll, Act.put, List.setIfInBounds_toArray, List.set_cons_zero, List.set_cons_succ]) (hCont (v14019, v14022, gb14025) _ ⟨hHeld, (Kd.V_ext (Kd.V_mono HL14017_0.out (fun _ hk => ⟨hk.1.1.2, ⟨hk.1.2, ⟨hk.1.1.1.1.1, ⟨hk.1.1.1.2, ⟨hk.1.1.1.1.2.1, ⟨hk.1.1.1.1.2.2.1, ⟨hk.1.1.1.1.2.2.2, hk.2⟩⟩⟩⟩⟩⟩⟩))), (Kd.R_ext (Kd.R_mono HO14020.out (fun _ hk => ⟨hk.1.1, ⟨hk.1.2, hk.2⟩⟩))), (Kd.R_ext (Kd.R_mono HO14023.out (fun _ hk => ⟨hk.1.1, ⟨hk.1.2, hk.2⟩⟩))), (Kd.N_ext (Kd.N_mono HO_0.out (fun _ hk => ⟨hk.1.1.2, ⟨hk.1.2, ⟨hk.1.1.1.1, ⟨hk.1.1.1.2.1, ⟨hk.1.1.1.2.2.1, ⟨hk.1.1.1.2.2.2, hk.2⟩⟩⟩⟩⟩⟩))), (Kd.N_ext (Kd.N_mono HO_1.out (fun _ hk => ⟨hk.1.1.2, ⟨hk.1.2, ⟨hk.1.1.1.1, ⟨hk.1.1.1.2.1, ⟨hk.1.1.1.2.2.1, ⟨hk.1.1.1.2.2.2, hk.2⟩⟩⟩⟩⟩⟩))), (Kd.R_ext (Kd.R_mono HO_14008000.out (fun _ hk => ⟨hk.1.2, ⟨hk.2, hk.1.1⟩⟩))), (Kd.R_ext (Kd.R_mono HO_14008001.out (fun _ hk => ⟨hk.1.2, ⟨hk.2, hk.1.1⟩⟩))), (blk_ext BK14007.out), (blk_ext BK14025.out), GW14025.out, GE14025.out, NB14007_14025.out, NB14025_14007.out, (below_extB HB.out)⟩)
                · skip
                  refine box_step ?hg (N := 12) ?hd (cs := #[.slice none 0 0, .slice none 0 0]) (t := 24) ?hr ?_; (case hd => rfl); (case hg => rfl); (case hr => first | (go_simp; done) | (go_simp; rfl))
                  intro gb14025 hg w36 hbox hb
                  have HS2_ := (hb.cell (World.block_lt_of_cell? _ _ (hHeld.2.2))).trans (hHeld.2.2)
                  have n8_ := Aside0.mk (hbox)
                  have n9_ := Aside0.mk ((by rw [hg]; exact (below_size (below_extB HB.out)) : w.heap.size ≤ gb14025))
                  have n10_ := Aside0.mk ((by rw [hg]; exact (below_size (below_extB HB.out)) : w.heap.size ≤ gb14025))
                  have n11_ := Aside0.mk ((by rw [hg]; exact Nat.ne_of_lt (blk_lt (blk_ext BK14007.out)) : gb14007 ≠ gb14025))
                  have n12_ := Aside0.mk ((by rw [hg]; exact Nat.ne_of_gt (blk_lt (blk_ext BK14007.out)) : gb14025 ≠ gb14007))
                  have BK14025 := n8_
                  have GW14025 := n9_
                  have GE14025 := n10_; have GI14025 := GE_.mk GE14025.out
                  have NB14007_14025 := n11_; have NI14007_14025 := NE_.mk NB14007_14025.out
                  have NB14025_14007 := n12_; have NI14025_14007 := NE_.mk NB14025_14007.out
                  replace HO_0 := awN HO_0 hb gb14025 hg
                  replace HO_1 := awN HO_1 hb gb14025 hg
                  replace HO_14008000 := mvR HO_14008000 hb
                  replace HO_14008001 := mvR HO_14008001 hb
                  replace HL14017_0 := awV HL14017_0 hb gb14025 hg
                  replace BK14007 := mvB BK14007 hb
                  replace HR14017_0 := mvC HR14017_0 hb
                  replace HB := mvH HB hb
                  clear n8_ n9_ n10_ n11_ n12_
                  clear hb hbox hg
                  refine hK.out _ _ ⟨(blk_cell BK14007.out 0).trans rfl, (blk_cell BK14007.out 1).trans rfl, HS2_⟩ (fun hHeld => ?_)
                  clear hK K
                  refine norm_ (a' := ?_) ?_ ?_
                  rotate_left
                  · show Act.put _ (some 12) _ = _
                    simp only [Act.put, List.setIfInBounds_toArray, List.set_cons_zero, List.set_cons_succ, i64_w, i32_w]
                    rfl
                  refine one_ (i := 6) (N := some 60) #[true, true, true, true, true, true, true, false, false, false, true, false, false] rfl rfl (one_of HT_.out (by kernel_rfl)) (by decide) (fun K hK => ?_)
                  refine goes_ Try.func58 (by kernel_rfl) rfl #[.agg #[.slice Ao33 x14008000_2.length co33, .slice Ao34 x14008001_2.length co34], .agg #[.int .i64 1, .slice A14017_0 (rd_L1 t14004 x11_2).length c14017_0]] (by rfl) rfl rfl (by (try simp only [List.map_toArray, List.map_cons, List.map_nil]); first | done | rfl | (simp only [List.length_drop, List.length_take]; rfl)) ?_
                  with_reducible refine (journal_Put.calls k2 _ _ x14008000_2 _ _ x14008001_2 1 _ _ (rd_L1 t14004 x11_2) t14018 t14021 t14024 _ ?side1 ?side2 ?side3 ?side4 ?side5 ?side6 A30.out).mono ?_
                  (case side1 => exact Kd.C_ext (Kd.R_reads' HO_14008000.out).2.2)
                  (case side2 => exact (Kd.R_reads' HO_14008000.out).2.1)
                  (case side3 => exact Kd.C_ext (Kd.R_reads' HO_14008001.out).2.2)
                  (case side4 => exact (Kd.R_reads' HO_14008001.out).2.1)
                  (case side5 => repeat (first | exact (by repeat (first | (with_reducible exact HR14017_0.out) | (with_reducible refine Kd.C_alloc ?_ _) | (with_reducible refine Kd.C_drewN ?_ _) | (with_reducible refine Kd.C_drew ?_) | exact HR14017_0.out)) | (with_reducible refine Kd.C_alloc ?_ _) | (with_reducible refine Kd.C_drewN ?_ _) | (with_reducible refine Kd.C_drew ?_)))
                  (case side6 => exact HC14017_0.out)
                  rintro e w37 ⟨v14019, v14022, rfl, ho0, ho1, hb⟩
                  have HS2_ := (hb.cell (World.block_lt_of_cell? _ _ (hHeld.2.2))).trans (hHeld.2.2)
                  refine ⟨_, rfl, ?_⟩
                  have n5_ := Aside0.mk (Kd.R_lower (Kd.R_new' (Kd.R_new' ho0 (Kd.R_lt (Kd.R_ext HO_14008000.out))) (Kd.R_lt (Kd.R_ext HO_14008001.out))) (below_size (below_extB HB.out)))
                  have n6_ := Aside0.mk (Kd.R_lower (Kd.R_new' (Kd.R_new' ho1 (Kd.R_lt (Kd.R_ext HO_14008000.out))) (Kd.R_lt (Kd.R_ext HO_14008001.out))) (below_size (below_extB HB.out)))
                  have HO14020 := n5_
                  have HO14023 := n6_
                  replace HO_0 := tdN2 HO_0 hb (Kd.R_base ho0) (Kd.R_base ho1)
                  replace HO_1 := tdN2 HO_1 hb (Kd.R_base ho0) (Kd.R_base ho1)
                  replace HO_14008000 := tdR2 HO_14008000 hb (Kd.R_base ho0) (Kd.R_base ho1)
                  replace HO_14008001 := tdR2 HO_14008001 hb (Kd.R_base ho0) (Kd.R_base ho1)
                  replace HL14017_0 := tdV2 HL14017_0 hb (Kd.R_base ho0) (Kd.R_base ho1)
                  replace BK14007 := mvB BK14007 hb
                  replace HR14017_0 := mvC HR14017_0 hb
                  replace BK14025 := mvB BK14025 hb
                  replace HB := mvH HB hb
                  clear n5_ n6_
                  (try clear hb)
                  (try clear hb2)
                  (try clear hk)
                  (try clear hi)
                  (try clear ho0)
                  (try clear ho1)
                  refine hK.out _ _ ⟨(blk_cell BK14007.out 0).trans rfl, (blk_cell BK14007.out 1).trans rfl, HS2_⟩ (fun hHeld => ?_)
                  clear hK K
                  refine norm_ (a' := ?_) ?_ ?_
                  rotate_left
                  · show Act.put _ (some 60) _ = _
                    simp only [Act.put, List.setIfInBounds_toArray, List.set_cons_zero, List.set_cons_succ, i64_w, i32_w]
                    rfl
                  refine pure_ (i := 7) (N := some 53) (v := ?_) (a' := ?_) #[true, true, true, true, true, true, true, true, false, false, true, false, false] rfl rfl (any_of HT_.out (by kernel_rfl)) (fun _ _ _ h => h) (Or.inl ⟨by rfl, ?_⟩) ?_ ?_
                  rotate_left
                  · intro w'
                    go_simp
                    with_reducible rfl
                  rotate_left
                  · simp only [Act.put, List.setIfInBounds_toArray, List.set_cons_zero, List.set_cons_succ, i64_w, i32_w]
                    rfl
                  refine pure_ (i := 8) (N := some 61) (v := ?_) (a' := ?_) #[true, true, true, true, true, true, true, true, true, false, true, false, false] rfl rfl (any_of HT_.out (by kernel_rfl)) (fun _ _ _ h => h) (Or.inl ⟨by rfl, ?_⟩) ?_ ?_
                  rotate_left
                  · intro w'
                    go_simp
                    with_reducible rfl
                  rotate_left
                  · simp only [Act.put, List.setIfInBounds_toArray, List.set_cons_zero, List.set_cons_succ, i64_w, i32_w]
                    rfl
                  refine pure_ (i := 9) (N := some 62) (v := ?_) (a' := ?_) #[true, true, true, true, true, true, true, true, true, true, true, false, false] rfl rfl (any_of HT_.out (by kernel_rfl)) (fun _ _ _ h => h) (Or.inl ⟨by rfl, ?_⟩) ?_ ?_
                  rotate_left
                  · intro w'
                    go_simp
                    with_reducible rfl
                  rotate_left
                  · simp only [Act.put, List.setIfInBounds_toArray, List.set_cons_zero, List.set_cons_succ, i64_w, i32_w]
                    rfl
                  exact norm_ (by simp only [putAll, Act.put, List.setIfInBounds_toArray, List.set_cons_zero, List.set_cons_succ]) (hCont (v14019, v14022, gb14025) _ ⟨hHeld, (Kd.V_ext (Kd.V_mono HL14017_0.out (fun _ hk => ⟨hk.1.2, ⟨hk.2, ⟨hk.1.1.1.1.1, ⟨hk.1.1.1.2, ⟨hk.1.1.1.1.2.1, ⟨hk.1.1.1.1.2.2.1, ⟨hk.1.1.1.1.2.2.2, hk.1.1.2⟩⟩⟩⟩⟩⟩⟩))), (Kd.R_ext (Kd.R_mono HO14020.out (fun _ hk => ⟨hk.1.1, ⟨hk.1.2, hk.2⟩⟩))), (Kd.R_ext (Kd.R_mono HO14023.out (fun _ hk => ⟨hk.1.1, ⟨hk.1.2, hk.2⟩⟩))), (Kd.N_ext (Kd.N_mono HO_0.out (fun _ hk => ⟨hk.1.2, ⟨hk.2, ⟨hk.1.1.1.1, ⟨hk.1.1.1.2.1, ⟨hk.1.1.1.2.2.1, ⟨hk.1.1.1.2.2.2, hk.1.1.2⟩⟩⟩⟩⟩⟩))), (Kd.N_ext (Kd.N_mono HO_1.out (fun _ hk => ⟨hk.1.2, ⟨hk.2, ⟨hk.1.1.1.1, ⟨hk.1.1.1.2.1, ⟨hk.1.1.1.2.2.1, ⟨hk.1.1.1.2.2.2, hk.1.1.2⟩⟩⟩⟩⟩⟩))), (Kd.R_ext (Kd.R_mono HO_14008000.out (fun _ hk => ⟨hk.1.2, ⟨hk.2, hk.1.1⟩⟩))), (Kd.R_ext (Kd.R_mono HO_14008001.out (fun _ hk => ⟨hk.1.2, ⟨hk.2, hk.1.1⟩⟩))), (blk_ext BK14007.out), (blk_ext BK14025.out), GW14025.out, GE14025.out, NB14007_14025.out, NB14025_14007.out, (below_extB HB.out)⟩)
              rintro ⟨v14019, v14022, gb14025⟩ w38 ⟨hS_, h0_, h1_, h2_, h3_, h4_, h5_, h6_, h7_, h8_, h9_, h10_, h11_, h12_, h13_⟩
              have n0_ : Aside0 (Kd.V (Kd.int .u8) 5 w38 w.heap.size (fun k_ => some k_ ≠ (v14019 : Value).ownBlock ∧ some k_ ≠ (v14022 : Value).ownBlock ∧ some k_ ≠ (.slice Ao27 t14001.length co27 : Value).ownBlock ∧ some k_ ≠ (.slice (some ad14017) t14004.length co32 : Value).ownBlock ∧ some k_ ≠ (.slice Ao33 x14008000_2.length co33 : Value).ownBlock ∧ some k_ ≠ (.slice Ao34 x14008001_2.length co34 : Value).ownBlock ∧ k_ ≠ gb14007 ∧ k_ ≠ gb14025) (.slice A14017_0 (rd_L1 t14004 x11_2).length c14017_0) (rd_L1 t14004 x11_2)) := ⟨h0_⟩
              have n1_ : Aside0 (Kd.R (Kd.int .u8) 5 w38 w.heap.size (fun k_ => some k_ ≠ (v14022 : Value).ownBlock ∧ some k_ ≠ (.slice Ao33 x14008000_2.length co33 : Value).ownBlock ∧ some k_ ≠ (.slice Ao34 x14008001_2.length co34 : Value).ownBlock) v14019 t14018) := ⟨h1_⟩
              have n2_ : Aside0 (Kd.R (Kd.int .u8) 5 w38 w.heap.size (fun k_ => some k_ ≠ (v14019 : Value).ownBlock ∧ some k_ ≠ (.slice Ao33 x14008000_2.length co33 : Value).ownBlock ∧ some k_ ≠ (.slice Ao34 x14008001_2.length co34 : Value).ownBlock) v14022 t14021) := ⟨h2_⟩
              have n3_ : Aside0 (Kd.N (Kd.slice 5 (Kd.int .u8)) 22 w38 w.heap.size (fun k_ => some k_ ≠ (v14019 : Value).ownBlock ∧ some k_ ≠ (v14022 : Value).ownBlock ∧ some k_ ≠ (.slice (some ad14017) t14004.length co32 : Value).ownBlock ∧ some k_ ≠ (.slice Ao33 x14008000_2.length co33 : Value).ownBlock ∧ some k_ ≠ (.slice Ao34 x14008001_2.length co34 : Value).ownBlock ∧ k_ ≠ gb14007 ∧ k_ ≠ gb14025) (.slice Ao27 t14001.length co27) t14001) := ⟨h3_⟩
              have n4_ : Aside0 (Kd.N (Kd.slice 5 (Kd.int .u8)) 22 w38 w.heap.size (fun k_ => some k_ ≠ (v14019 : Value).ownBlock ∧ some k_ ≠ (v14022 : Value).ownBlock ∧ some k_ ≠ (.slice Ao27 t14001.length co27 : Value).ownBlock ∧ some k_ ≠ (.slice Ao33 x14008000_2.length co33 : Value).ownBlock ∧ some k_ ≠ (.slice Ao34 x14008001_2.length co34 : Value).ownBlock ∧ k_ ≠ gb14007 ∧ k_ ≠ gb14025) (.slice (some ad14017) t14004.length co32) t14004) := ⟨h4_⟩
              have n5_ : Aside0 (Kd.R (Kd.int .u8) 5 w38 w.heap.size (fun k_ => some k_ ≠ (v14019 : Value).ownBlock ∧ some k_ ≠ (v14022 : Value).ownBlock ∧ some k_ ≠ (.slice Ao34 x14008001_2.length co34 : Value).ownBlock) (.slice Ao33 x14008000_2.length co33) x14008000_2) := ⟨h5_⟩
              have n6_ : Aside0 (Kd.R (Kd.int .u8) 5 w38 w.heap.size (fun k_ => some k_ ≠ (v14019 : Value).ownBlock ∧ some k_ ≠ (v14022 : Value).ownBlock ∧ some k_ ≠ (.slice Ao33 x14008000_2.length co33 : Value).ownBlock) (.slice Ao34 x14008001_2.length co34) x14008001_2) := ⟨h6_⟩
              have n7_ : Aside0 (w38.heap[gb14007]? = some (.cells #[.slice Ao33 x14008000_2.length co33, .slice Ao34 x14008001_2.length co34] 24 (0, 0))) := ⟨h7_⟩
              have n8_ : Aside0 (w38.heap[gb14025]? = some (.cells #[.slice none 0 0, .slice none 0 0] 24 (0, 0))) := ⟨h8_⟩
              have n9_ : Aside0 (w.heap.size ≤ gb14025) := ⟨h9_⟩
              have n10_ : Aside0 (w.heap.size ≤ gb14025) := ⟨h10_⟩
              have n11_ : Aside0 (gb14007 ≠ gb14025) := ⟨h11_⟩
              have n12_ : Aside0 (gb14025 ≠ gb14007) := ⟨h12_⟩
              have n13_ : Aside0 (Below w.heap.size w w38) := ⟨h13_⟩
              clear HO_0
              clear HO_1
              clear HO_14008000
              clear HO_14008001
              clear BK14007
              clear HB
              clear h0_ h1_ h2_ h3_ h4_ h5_ h6_ h7_ h8_ h9_ h10_ h11_ h12_ h13_
              have HL14017_0 := n0_
              have HO14020 := n1_
              have HO14023 := n2_
              have HO_0 := n3_
              have HO_1 := n4_
              have HO_14008000 := n5_
              have HO_14008001 := n6_
              have BK14007 := n7_
              have BK14025 := n8_
              have GW14025 := n9_
              have GE14025 := n10_; have GI14025 := GE_.mk GE14025.out
              have NB14007_14025 := n11_; have NI14007_14025 := NE_.mk NB14007_14025.out
              have NB14025_14007 := n12_; have NI14025_14007 := NE_.mk NB14025_14007.out
              have HB := n13_
              clear n0_ n1_ n2_ n3_ n4_ n5_ n6_ n7_ n8_ n9_ n10_ n11_ n12_ n13_
              have hHeld : w38.cell? ⟨gb14007, 0, none⟩ = some (.slice Ao33 x14008000_2.length co33) ∧ w38.cell? ⟨gb14007, 1, none⟩ = some (.slice Ao34 x14008001_2.length co34) ∧ w38.cell? (ad14017.add (x11_2).toNat) = some (.slice A14017_0 (rd_L1 t14004 x11_2).length c14017_0) := hS_
              obtain ⟨Ao39, co39, eo39⟩ := Kd.R_slice HO14020.out
              (first | subst eo39 | (injection eo39 with f1_ f2_ f3_; have f4_ := f1_.symm; have f5_ := f3_.symm; clear f1_ f2_ f3_; subst f4_; subst f5_))
              obtain ⟨Ao41, co41, eo41⟩ := Kd.R_slice HO14023.out
              (first | subst eo41 | (injection eo41 with f1_ f2_ f3_; have f4_ := f1_.symm; have f5_ := f3_.symm; clear f1_ f2_ f3_; subst f4_; subst f5_))
              refine norm_ (a' := ?_) ?_ ?_
              rotate_left
              · simp only [putAll, Act.put, List.setIfInBounds_toArray, List.set_cons_zero, List.set_cons_succ]
                rfl
              refine one_ (i := 11) (N := none) #[true, true, true, true, true, true, true, true, true, true, true, true, false] rfl rfl (one_of HT_.out (by kernel_rfl)) (by decide) (fun K hK => ?_)
              have hs40 : w38.cell? ⟨gb14025, 0, none⟩ = some (.slice none 0 0) := (blk_cell BK14025.out 0).trans rfl
              have hfs40 := blk_frozen BK14025.out 0
              have hns40_0 := NB14007_14025.out
              have hms40_0 := NB14025_14007.out
              have hs42 : w38.cell? ⟨gb14025, 1, none⟩ = some (.slice none 0 0) := (blk_cell BK14025.out 1).trans rfl
              have hfs42 := blk_frozen BK14025.out 1
              have hns42_0 := NB14007_14025.out
              have hms42_0 := NB14025_14007.out
              refine skip_ (w1 := ?_) (by rfl) rfl ?_ ?_
              rotate_left
              · go_simp
                rfl
              refine hK.out _ _ ⟨((cell_far (p := ⟨gb14025, _, none⟩) NB14007_14025.out _).trans (((cell_far (p := ⟨gb14025, _, none⟩) NB14007_14025.out _).trans (hHeld.1)))), ((cell_far (p := ⟨gb14025, _, none⟩) NB14007_14025.out _).trans (((cell_far (p := ⟨gb14025, _, none⟩) NB14007_14025.out _).trans (hHeld.2.1)))), ((cell_far (p := ⟨gb14025, _, none⟩) (by first | exact Kd.own_blk (Kd.N_away HO_1.out (fun _ hk => hk.2.2.2.2.2.2)) | (rw [add_block]; exact Kd.own_blk (Kd.N_away HO_1.out (fun _ hk => hk.2.2.2.2.2.2))) | (show (Addr.add _ _).block ≠ _; rw [add_block]; exact Kd.own_blk (Kd.N_away HO_1.out (fun _ hk => hk.2.2.2.2.2.2))) | (dsimp only; exact Kd.own_blk (Kd.N_away HO_1.out (fun _ hk => hk.2.2.2.2.2.2)))) _).trans (((cell_far (p := ⟨gb14025, _, none⟩) (by first | exact Kd.own_blk (Kd.N_away HO_1.out (fun _ hk => hk.2.2.2.2.2.2)) | (rw [add_block]; exact Kd.own_blk (Kd.N_away HO_1.out (fun _ hk => hk.2.2.2.2.2.2))) | (show (Addr.add _ _).block ≠ _; rw [add_block]; exact Kd.own_blk (Kd.N_away HO_1.out (fun _ hk => hk.2.2.2.2.2.2))) | (dsimp only; exact Kd.own_blk (Kd.N_away HO_1.out (fun _ hk => hk.2.2.2.2.2.2)))) _).trans (hHeld.2.2))))⟩ (fun hHeld => ?_)
              clear hK K
              refine pure_ (i := 12) (N := some 13) (v := ?_) (a' := ?_) #[true, true, true, true, true, true, true, true, true, true, true, true, true] rfl rfl (any_of HT_.out (by kernel_rfl)) (fun _ _ _ h => h) (Or.inl ⟨by rfl, ?_⟩) ?_ ?_
              rotate_left
              · intro w'
                go_simp
                with_reducible rfl
              rotate_left
              · simp only [Act.put, List.setIfInBounds_toArray, List.set_cons_zero, List.set_cons_succ, i64_w, i32_w]
                rfl
              refine done_ (done_of HT_.out (by kernel_rfl)) ?_
              have hnb43 := NB14025_14007.out
              have hnc43 := NB14007_14025.out
              have hcz44_0 : w38.cell? ⟨gb14025, 0, none⟩ = some (.slice none 0 0) := (blk_cell BK14025.out 0).trans rfl
              have hcz44_1 : w38.cell? ⟨gb14025, 1, none⟩ = some (.slice none 0 0) := (blk_cell BK14025.out 1).trans rfl
              have hfz44_0 := blk_frozen BK14025.out 0
              have hfz44_1 := blk_frozen BK14025.out 1
              have hcz45_0 : w38.cell? ⟨gb14007, 0, none⟩ = some (.slice Ao33 x14008000_2.length co33) := (blk_cell BK14007.out 0).trans rfl
              have hcz45_1 : w38.cell? ⟨gb14007, 1, none⟩ = some (.slice Ao34 x14008001_2.length co34) := (blk_cell BK14007.out 1).trans rfl
              have hfz45_0 := blk_frozen BK14007.out 0
              have hfz45_1 := blk_frozen BK14007.out 1
              try go_wp2
              go_roundg k2
              case measure => have := HK1.out; have := HK2.out; omega
              case rel => exact ⟨(wrap64 (x11_2 + 1)), (t14018), (t14021), (.slice Ao39 t14018.length co39), (.slice Ao41 t14021.length co41), (by first | rfl | (simp; done) | (simp [*]; done)), H', ⟨by have := HK1.out; have := HK2.out; omega⟩, ⟨Kd.N_ext (Kd.N_mono (Kd.N_far (p := ⟨gb14007, 1, none⟩) (Kd.N_far (p := ⟨gb14007, 0, none⟩) (Kd.N_far (p := ⟨gb14025, 1, none⟩) (Kd.N_far (p := ⟨gb14025, 0, none⟩) (Kd.N_mono (Kd.N_mono HO_0.out (fun k_ hk => (⟨hk, hk.2.2.2.2.2.2⟩ : _ ∧ k_ ≠ gb14025))) (fun k_ hk => (⟨hk, hk.1.2.2.2.2.2.1⟩ : _ ∧ k_ ≠ gb14007))) (fun _ hk => hk.1.2) (.slice Ao39 t14018.length co39)) (fun _ hk => hk.1.2) (.slice Ao41 t14021.length co41)) (fun _ hk => hk.2) (.slice Ao39 t14018.length co39)) (fun _ hk => hk.2) (.slice Ao41 t14021.length co41)) (fun _ hk => ⟨hk.1.1.2.2.1, ⟨hk.1.1.1, ⟨hk.1.1.2.1, hk.1.1.2.2.2.2.2.1⟩⟩⟩))⟩, ⟨Kd.N_ext (Kd.N_mono (Kd.N_far (p := ⟨gb14007, 1, none⟩) (Kd.N_far (p := ⟨gb14007, 0, none⟩) (Kd.N_far (p := ⟨gb14025, 1, none⟩) (Kd.N_far (p := ⟨gb14025, 0, none⟩) (Kd.N_mono (Kd.N_mono HO_1.out (fun k_ hk => (⟨hk, hk.2.2.2.2.2.2⟩ : _ ∧ k_ ≠ gb14025))) (fun k_ hk => (⟨hk, hk.1.2.2.2.2.2.1⟩ : _ ∧ k_ ≠ gb14007))) (fun _ hk => hk.1.2) (.slice Ao39 t14018.length co39)) (fun _ hk => hk.1.2) (.slice Ao41 t14021.length co41)) (fun _ hk => hk.2) (.slice Ao39 t14018.length co39)) (fun _ hk => hk.2) (.slice Ao41 t14021.length co41)) (fun _ hk => ⟨hk.1.1.2.2.1, ⟨hk.1.1.1, ⟨hk.1.1.2.1, hk.1.1.2.2.2.2.2.1⟩⟩⟩))⟩, ⟨Kd.R_ext (Kd.R_mono (Kd.R_far (p := ⟨gb14007, 1, none⟩) (Kd.R_far (p := ⟨gb14007, 0, none⟩) (Kd.R_far (p := ⟨gb14025, 1, none⟩) (Kd.R_far (p := ⟨gb14025, 0, none⟩) (Kd.R_types (Kd.R_types HO14020.out BK14025.out (by decide)) BK14007.out (by decide)) (fun _ hk => hk.1.2) (.slice Ao39 t14018.length co39)) (fun _ hk => hk.1.2) (.slice Ao41 t14021.length co41)) (fun _ hk => hk.2) (.slice Ao39 t14018.length co39)) (fun _ hk => hk.2) (.slice Ao41 t14021.length co41)) (fun _ hk => hk.1.1.1))⟩, ⟨Kd.R_ext (Kd.R_mono (Kd.R_far (p := ⟨gb14007, 1, none⟩) (Kd.R_far (p := ⟨gb14007, 0, none⟩) (Kd.R_far (p := ⟨gb14025, 1, none⟩) (Kd.R_far (p := ⟨gb14025, 0, none⟩) (Kd.R_types (Kd.R_types HO14023.out BK14025.out (by decide)) BK14007.out (by decide)) (fun _ hk => hk.1.2) (.slice Ao39 t14018.length co39)) (fun _ hk => hk.1.2) (.slice Ao41 t14021.length co41)) (fun _ hk => hk.2) (.slice Ao39 t14018.length co39)) (fun _ hk => hk.2) (.slice Ao41 t14021.length co41)) (fun _ hk => hk.1.1.1))⟩, ⟨by (with_reducible repeat (first | refine blk_drewN ?_ _ | refine blk_drew ?_ | refine blk_alloc ?_ _)); refine blk_put (cs := #[.slice Ao39 t14018.length co39, .slice Ao34 x14008001_2.length co34]) ?_ 1 _ rfl; (with_reducible repeat (first | refine blk_drewN ?_ _ | refine blk_drew ?_ | refine blk_alloc ?_ _)); refine blk_put (cs := #[.slice Ao33 x14008000_2.length co33, .slice Ao34 x14008001_2.length co34]) ?_ 0 _ rfl; (with_reducible repeat (first | refine blk_drewN ?_ _ | refine blk_drew ?_ | refine blk_alloc ?_ _)); refine blk_far ?_ NB14007_14025.out _; (with_reducible repeat (first | refine blk_drewN ?_ _ | refine blk_drew ?_ | refine blk_alloc ?_ _)); refine blk_far ?_ NB14007_14025.out _; exact blk_ext BK14007.out⟩, ⟨below_extB HB.out⟩⟩
            · rw [if_neg c28] at H
              have c28b0 : decide (x11_2 < (t14004.length : Int)) = false := decide_eq_false c28
              clear c28
              obtain ⟨y14026, hy14026⟩ : ∃ y_ : List (List Int), y_ = (([] : List (List Int))) := ⟨_, rfl⟩
              replace H : (if y14026.length + t14001.length < 5864062014805 then ((some (y14026 ++ t14001 : List (List Int))).bind fun y14029 => (if y14029.length + t14004.length < 5864062014805 then ((some (y14029 ++ t14004 : List (List Int))).bind fun y14032 => ((customsmade_Within.f a2 5000).bind fun t14035 => ((disk_Crash.f x14008000_2 x14008001_2 t14035).bind fun bt14036 => ((journal_Open.f k2 bt14036.1 bt14036.2).bind fun bt14042 => (if bt14042.2.2.2.1 = true then (customslaw34_JournalCrash.j2 k2 bt14042.2.2.2.2 true bt14042.1 bt14042.2.1) else (if (bt14042.2.2.2.2.length : Int) < (t14001.length : Int) then (customslaw34_JournalCrash.j2 k2 bt14042.2.2.2.2 true bt14042.1 bt14042.2.1) else (if (bt14042.2.2.2.2.length : Int) > (y14032.length : Int) then (customslaw34_JournalCrash.j2 k2 bt14042.2.2.2.2 true bt14042.1 bt14042.2.1) else (if 0 ≤ (bt14042.2.2.2.2.length : Int) then (if (bt14042.2.2.2.2.length : Int) ≤ (y14032.length : Int) then ((customsref33_SameRecords.f k2 bt14042.2.2.2.2 (y14032.take ((bt14042.2.2.2.2.length : Int) : Int).toNat)).bind fun t14061 => (customslaw34_JournalCrash.j2 k2 bt14042.2.2.2.2 (!t14061) bt14042.1 bt14042.2.1)) else (none)) else (none))))))))) else (none))) else (none)) = some r := by first | (rw [hy14026]; with_reducible exact H) | (have H2_ := (Option.bind_some _ _).symm.trans H; rw [hy14026]; with_reducible exact H2_) | (have H2_ := (Option.bind_some _ _).symm.trans H; with_reducible exact H2_) | with_reducible exact H | (rw [hy14026]; exact H) | exact H
              have Ny14026 := Aside0.mk hy14026
              clear hy14026
              by_cases c46 : y14026.length + t14001.length < 5864062014805
              · rw [if_pos c46] at H
                have LMc46 := Aside0.mk c46
                clear c46
                obtain ⟨y14029, hy14029⟩ : ∃ y_ : List (List Int), y_ = (y14026 ++ t14001) := ⟨_, rfl⟩
                replace H : (if y14029.length + t14004.length < 5864062014805 then ((some (y14029 ++ t14004 : List (List Int))).bind fun y14032 => ((customsmade_Within.f a2 5000).bind fun t14035 => ((disk_Crash.f x14008000_2 x14008001_2 t14035).bind fun bt14036 => ((journal_Open.f k2 bt14036.1 bt14036.2).bind fun bt14042 => (if bt14042.2.2.2.1 = true then (customslaw34_JournalCrash.j2 k2 bt14042.2.2.2.2 true bt14042.1 bt14042.2.1) else (if (bt14042.2.2.2.2.length : Int) < (t14001.length : Int) then (customslaw34_JournalCrash.j2 k2 bt14042.2.2.2.2 true bt14042.1 bt14042.2.1) else (if (bt14042.2.2.2.2.length : Int) > (y14032.length : Int) then (customslaw34_JournalCrash.j2 k2 bt14042.2.2.2.2 true bt14042.1 bt14042.2.1) else (if 0 ≤ (bt14042.2.2.2.2.length : Int) then (if (bt14042.2.2.2.2.length : Int) ≤ (y14032.length : Int) then ((customsref33_SameRecords.f k2 bt14042.2.2.2.2 (y14032.take ((bt14042.2.2.2.2.length : Int) : Int).toNat)).bind fun t14061 => (customslaw34_JournalCrash.j2 k2 bt14042.2.2.2.2 (!t14061) bt14042.1 bt14042.2.1)) else (none)) else (none))))))))) else (none)) = some r := by first | (rw [hy14029]; with_reducible exact H) | (have H2_ := (Option.bind_some _ _).symm.trans H; rw [hy14029]; with_reducible exact H2_) | (have H2_ := (Option.bind_some _ _).symm.trans H; with_reducible exact H2_) | with_reducible exact H | (rw [hy14029]; exact H) | exact H
                have Ny14029 := Aside0.mk hy14029
                clear hy14029
                replace H := if_some H; obtain ⟨c47, H⟩ := H
                have LMc47 := Aside0.mk c47
                clear c47
                obtain ⟨y14032, hy14032⟩ : ∃ y_ : List (List Int), y_ = (y14029 ++ t14004) := ⟨_, rfl⟩
                replace H : ((customsmade_Within.f a2 5000).bind fun t14035 => ((disk_Crash.f x14008000_2 x14008001_2 t14035).bind fun bt14036 => ((journal_Open.f k2 bt14036.1 bt14036.2).bind fun bt14042 => (if bt14042.2.2.2.1 = true then (customslaw34_JournalCrash.j2 k2 bt14042.2.2.2.2 true bt14042.1 bt14042.2.1) else (if (bt14042.2.2.2.2.length : Int) < (t14001.length : Int) then (customslaw34_JournalCrash.j2 k2 bt14042.2.2.2.2 true bt14042.1 bt14042.2.1) else (if (bt14042.2.2.2.2.length : Int) > (y14032.length : Int) then (customslaw34_JournalCrash.j2 k2 bt14042.2.2.2.2 true bt14042.1 bt14042.2.1) else (if 0 ≤ (bt14042.2.2.2.2.length : Int) then (if (bt14042.2.2.2.2.length : Int) ≤ (y14032.length : Int) then ((customsref33_SameRecords.f k2 bt14042.2.2.2.2 (y14032.take ((bt14042.2.2.2.2.length : Int) : Int).toNat)).bind fun t14061 => (customslaw34_JournalCrash.j2 k2 bt14042.2.2.2.2 (!t14061) bt14042.1 bt14042.2.1)) else (none)) else (none)))))))) = some r := by first | (rw [hy14032]; with_reducible exact H) | (have H2_ := (Option.bind_some _ _).symm.trans H; rw [hy14032]; with_reducible exact H2_) | (have H2_ := (Option.bind_some _ _).symm.trans H; with_reducible exact H2_) | with_reducible exact H | (rw [hy14032]; exact H) | exact H
                have Ny14032 := Aside0.mk hy14032
                clear hy14032
                replace H := Option.bind_eq_some_iff.mp H
                obtain ⟨t14035, A480, H⟩ := H
                try dsimp only at H
                have A48 := Aside0.mk A480
                clear A480
                replace H := Option.bind_eq_some_iff.mp H
                obtain ⟨⟨t14036, t14039⟩, A490, H⟩ := H
                try dsimp only at H
                have A49 := Aside0.mk A490
                clear A490
                replace H := Option.bind_eq_some_iff.mp H
                obtain ⟨⟨t14042, t14045, t14048, t14051, t14052⟩, A500, H⟩ := H
                try dsimp only at H
                have A50 := Aside0.mk A500
                clear A500
                have HC51 := Aside0.mk H
                clear H
                obtain ⟨Ao52, co52, eo52⟩ := Kd.N_slice HO_1.out
                subst eo52
                try go_wp2_with (first | ((with_reducible refine gate_dst (N := 66) rfl ?_); (try (refine gate_guard (by rfl) ?_; dsimp only)); refine Kd.N_lit (Kd.slice 5 (Kd.int .u8)) _ 22 ?hg (N' := 66) ?hd (xs := ([] : List (List Int))) (inner := []) (ok := (fun k_ => some k_ ≠ (.slice Ao27 t14001.length co27 : Value).ownBlock ∧ some k_ ≠ (.slice Ao52 t14004.length co52 : Value).ownBlock ∧ some k_ ≠ (u14008000 : Value).ownBlock ∧ some k_ ≠ (u14008001 : Value).ownBlock ∧ k_ ≠ gb14007)) (okp := (fun k_ => some k_ ≠ (.slice Ao27 t14001.length co27 : Value).ownBlock ∧ some k_ ≠ (.slice Ao52 t14004.length co52 : Value).ownBlock ∧ some k_ ≠ (u14008000 : Value).ownBlock ∧ some k_ ≠ (u14008001 : Value).ownBlock ∧ k_ ≠ gb14007)) ?hr ?hp (fun _ hk => hk) ((show ∀ k_, wr.heap.size ≤ k_ → (fun k_ => some k_ ≠ (.slice Ao27 t14001.length co27 : Value).ownBlock ∧ some k_ ≠ (.slice Ao52 t14004.length co52 : Value).ownBlock ∧ some k_ ≠ (u14008000 : Value).ownBlock ∧ some k_ ≠ (u14008001 : Value).ownBlock ∧ k_ ≠ gb14007) k_ from fun k_ hk => ⟨Kd.fresh' (Kd.N_lt (Kd.N_ext HO_0.out)) k_ hk, Kd.fresh' (Kd.N_lt (Kd.N_ext HO_1.out)) k_ hk, Kd.fresh' (Kd.R_lt (Kd.R_ext HO_14008000.out)) k_ hk, Kd.fresh' (Kd.R_lt (Kd.R_ext HO_14008001.out)) k_ hk, Kd.freshB (g := gb14007) (o := .cells #[u14008000, u14008001] 24 (0, 0)) (blk_ext BK14007.out) k_ hk⟩) _ (Nat.le_refl _)) (Below.refl _ _) (Nat.le_refl _) (by simp) ?_; (case hd => rfl); (case hg => rfl); (case hr => first | (go_simp; done) | (go_simp; rfl)); (case hp => exact (Reps.none _ _)); intro v14027 w53 ho54 hb hg_ hnew_; clear hg_ hnew_; (first | rw [← Ny14026.out] at ho54 | (simp only [Int.reduceToNat] at ho54; rw [← Ny14026.out] at ho54)); have n4_ := Aside0.mk (Kd.N_lower ho54 (below_size (below_extB HB.out))); have HO14028 := n4_; replace HO_0 := apN HO_0 hb (Kd.N_base ho54); replace HO_1 := apN HO_1 hb (Kd.N_base ho54); replace HO_14008000 := mvR HO_14008000 hb; replace HO_14008001 := mvR HO_14008001 hb; replace BK14007 := mvB BK14007 hb; replace HB := mvH HB hb; clear n4_; clear hb ho54) | ((with_reducible refine gate_builtin (b := .append) (xs := #[.tmp 66, .tmp 67]) rfl ?_); (try (refine gate_guard (by rfl) ?_; dsimp only)); at_builtin; refine Kd.N_append_rows (Kd.slice 5 (Kd.int .u8)) (w0 := w) w.heap.size rfl (.tmp 66) (.tmp 67) 34 22 (.slice none 0 0) 24 rfl Try.underlying34 info22 rfl (by decide) (by omega) v14027 y14026 t14001 _ _ _ (fun k_ => some k_ ≠ (.slice Ao52 t14004.length co52 : Value).ownBlock ∧ some k_ ≠ (u14008000 : Value).ownBlock ∧ some k_ ≠ (u14008001 : Value).ownBlock ∧ k_ ≠ gb14007) (fun k_ => ((fun k_ => some k_ ≠ (.slice Ao52 t14004.length co52 : Value).ownBlock ∧ some k_ ≠ (u14008000 : Value).ownBlock ∧ some k_ ≠ (u14008001 : Value).ownBlock ∧ k_ ≠ gb14007)) k_ ∧ some k_ ≠ (v14027 : Value).ownBlock) rfl rfl ?aO ?aR (fun _ hk => hk) ?aF ?aB ?aS ?aL ?_; (case aR => exact (by skip; exact Kd.N_F (Kd.N_mono (ok' := (fun k_ => ((fun k_ => some k_ ≠ (.slice Ao52 t14004.length co52 : Value).ownBlock ∧ some k_ ≠ (u14008000 : Value).ownBlock ∧ some k_ ≠ (u14008001 : Value).ownBlock ∧ k_ ≠ gb14007)) k_ ∧ some k_ ≠ (v14027 : Value).ownBlock)) (HO_0.out) (fun k_ hk => ⟨⟨hk.1.1, ⟨hk.1.2.1, ⟨hk.1.2.2.1, hk.1.2.2.2⟩⟩⟩, hk.2⟩)))); (case aB => exact (below_extB HB.out)); (case aF => exact (fun k_ hk => ⟨Kd.fresh' (Kd.N_lt (Kd.N_ext HO_1.out)) k_ hk, Kd.fresh' (Kd.R_lt (Kd.R_ext HO_14008000.out)) k_ hk, Kd.fresh' (Kd.R_lt (Kd.R_ext HO_14008001.out)) k_ hk, Kd.freshB (g := gb14007) (o := .cells #[u14008000, u14008001] 24 (0, 0)) (blk_ext BK14007.out) k_ hk⟩)); (case aO => exact (Kd.N_ext (Kd.N_mono HO14028.out (fun _ hk => ⟨hk.2.1, ⟨hk.2.2.1, ⟨hk.2.2.2.1, hk.2.2.2.2⟩⟩⟩)))); (case aS => exact (below_size (below_extB HB.out))); (case aL => have := LMc46.out; omega); intro v14030 w55 ho hb hg hat; rw [← Ny14029.out] at ho; have n0_ := Aside0.mk (Kd.N_afterv (ok := (fun k_ => some k_ ≠ (.slice Ao52 t14004.length co52 : Value).ownBlock ∧ some k_ ≠ (u14008000 : Value).ownBlock ∧ some k_ ≠ (u14008001 : Value).ownBlock ∧ k_ ≠ gb14007)) (Kd.N_ext HO_0.out) hg hat); have n1_ := Aside0.mk (Kd.N_afterv (ok := (fun k_ => some k_ ≠ (.slice Ao27 t14001.length co27 : Value).ownBlock ∧ some k_ ≠ (u14008000 : Value).ownBlock ∧ some k_ ≠ (u14008001 : Value).ownBlock ∧ k_ ≠ gb14007)) (Kd.N_ext HO_1.out) hg hat); have n2_ := Aside0.mk (Kd.R_over' (Kd.R_ext HO_14008000.out) (Kd.N_typed (Kd.N_ext HO14028.out)) (by decide) hg); have n3_ := Aside0.mk (Kd.R_over' (Kd.R_ext HO_14008001.out) (Kd.N_typed (Kd.N_ext HO14028.out)) (by decide) hg); have n4_ := Aside0.mk (blk_grown (g := gb14007) (o := .cells #[u14008000, u14008001] 24 (0, 0)) (blk_ext BK14007.out) hg (Kd.N_ne HO14028.out BK14007.out (by decide))); have n5_ := Aside0.mk (hb); have n6_ := Aside0.mk (ho); clear HO_0; clear HO_1; clear HO_14008000; clear HO_14008001; clear BK14007; clear HB; clear HO14028; have HO_0 := n0_; have HO_1 := n1_; have HO_14008000 := n2_; have HO_14008001 := n3_; have BK14007 := n4_; have HB := n5_; have HO14031 := n6_; clear n0_ n1_ n2_ n3_ n4_ n5_ n6_; clear ho hb hg hat) | ((with_reducible refine gate_builtin (b := .append) (xs := #[.tmp 68, .tmp 69]) rfl ?_); (try (refine gate_guard (by rfl) ?_; dsimp only)); at_builtin; refine Kd.N_append_rows (Kd.slice 5 (Kd.int .u8)) (w0 := w) w.heap.size rfl (.tmp 68) (.tmp 69) 34 22 (.slice none 0 0) 24 rfl Try.underlying34 info22 rfl (by decide) (by omega) v14030 y14029 t14004 _ _ _ (fun k_ => some k_ ≠ (u14008000 : Value).ownBlock ∧ some k_ ≠ (u14008001 : Value).ownBlock ∧ k_ ≠ gb14007) (fun k_ => ((fun k_ => some k_ ≠ (u14008000 : Value).ownBlock ∧ some k_ ≠ (u14008001 : Value).ownBlock ∧ k_ ≠ gb14007)) k_ ∧ some k_ ≠ (v14030 : Value).ownBlock) rfl rfl ?aO ?aR (fun _ hk => hk) ?aF ?aB ?aS ?aL ?_; (case aR => exact (by skip; exact Kd.N_F (Kd.N_mono (ok' := (fun k_ => ((fun k_ => some k_ ≠ (u14008000 : Value).ownBlock ∧ some k_ ≠ (u14008001 : Value).ownBlock ∧ k_ ≠ gb14007)) k_ ∧ some k_ ≠ (v14030 : Value).ownBlock)) (HO_1.out) (fun k_ hk => ⟨⟨hk.1.2.1, ⟨hk.1.2.2.1, hk.1.2.2.2⟩⟩, hk.2⟩)))); (case aB => exact (below_extB HB.out)); (case aF => exact (fun k_ hk => ⟨Kd.fresh' (Kd.R_lt (Kd.R_ext HO_14008000.out)) k_ hk, Kd.fresh' (Kd.R_lt (Kd.R_ext HO_14008001.out)) k_ hk, Kd.freshB (g := gb14007) (o := .cells #[u14008000, u14008001] 24 (0, 0)) (blk_ext BK14007.out) k_ hk⟩)); (case aO => exact (Kd.N_ext (Kd.N_mono HO14031.out (fun _ hk => ⟨hk.2.1, ⟨hk.2.2.1, hk.2.2.2⟩⟩)))); (case aS => exact (below_size (below_extB HB.out))); (case aL => have := LMc47.out; omega); intro v14033 w56 ho hb hg hat; rw [← Ny14032.out] at ho; have n0_ := Aside0.mk (Kd.N_afterv (ok := (fun k_ => some k_ ≠ (.slice Ao52 t14004.length co52 : Value).ownBlock ∧ some k_ ≠ (u14008000 : Value).ownBlock ∧ some k_ ≠ (u14008001 : Value).ownBlock ∧ k_ ≠ gb14007)) (Kd.N_ext HO_0.out) hg hat); have n1_ := Aside0.mk (Kd.N_afterv (ok := (fun k_ => some k_ ≠ (.slice Ao27 t14001.length co27 : Value).ownBlock ∧ some k_ ≠ (u14008000 : Value).ownBlock ∧ some k_ ≠ (u14008001 : Value).ownBlock ∧ k_ ≠ gb14007)) (Kd.N_ext HO_1.out) hg hat); have n2_ := Aside0.mk (Kd.R_over' (Kd.R_ext HO_14008000.out) (Kd.N_typed (Kd.N_ext HO14031.out)) (by decide) hg); have n3_ := Aside0.mk (Kd.R_over' (Kd.R_ext HO_14008001.out) (Kd.N_typed (Kd.N_ext HO14031.out)) (by decide) hg); have n4_ := Aside0.mk (blk_grown (g := gb14007) (o := .cells #[u14008000, u14008001] 24 (0, 0)) (blk_ext BK14007.out) hg (Kd.N_ne HO14031.out BK14007.out (by decide))); have n5_ := Aside0.mk (hb); have n6_ := Aside0.mk (ho); clear HO_0; clear HO_1; clear HO_14008000; clear HO_14008001; clear BK14007; clear HB; clear HO14031; have HO_0 := n0_; have HO_1 := n1_; have HO_14008000 := n2_; have HO_14008001 := n3_; have BK14007 := n4_; have HB := n5_; have HO14034 := n6_; clear n0_ n1_ n2_ n3_ n4_ n5_ n6_; clear ho hb hg hat; obtain ⟨Ao57, co57, eo57⟩ := Kd.R_slice HO_14008000.out; subst eo57; obtain ⟨Ao58, co58, eo58⟩ := Kd.R_slice HO_14008001.out; subst eo58))
                have n0_ := Aside0.mk (Kd.N_drew HO_0.out)
                have n1_ := Aside0.mk (Kd.N_drew HO_1.out)
                have n2_ := Aside0.mk (Kd.R_drew HO_14008000.out)
                have n3_ := Aside0.mk (Kd.R_drew HO_14008001.out)
                have n4_ := Aside0.mk (Kd.N_drew HO14034.out)
                have n5_ := Aside0.mk (blk_drew BK14007.out)
                have n6_ := Aside0.mk (below_drew1 HB.out)
                clear HO_0
                clear HO_1
                clear HO_14008000
                clear HO_14008001
                clear HO14034
                clear BK14007
                clear HB
                have HO_0 := n0_
                have HO_1 := n1_
                have HO_14008000 := n2_
                have HO_14008001 := n3_
                have HO14034 := n4_
                have BK14007 := n5_
                have HB := n6_
                clear n0_ n1_ n2_ n3_ n4_ n5_ n6_
                refine start_ (n := 15) (S := fun w' => w'.cell? ⟨gb14007, 0, none⟩ = some (.slice Ao57 x14008000_2.length co57) ∧ w'.cell? ⟨gb14007, 1, none⟩ = some (.slice Ao58 x14008001_2.length co58)) (ds := []) #[false, false, false, false, false, false, false, false, false, false, false, false, false, false, false] (by kernel_rfl) rfl rfl ⟨(blk_cell BK14007.out 0).trans rfl, (blk_cell BK14007.out 1).trans rfl⟩ (fun hHeld => ?_); refine with_tabW customslaw34_JournalCrash.tab18 customslaw34_JournalCrash.bits18 (fun HT_ HW_ => ?_)
                generalize w56.drew = w59 at HO_0 HO_1 HO_14008000 HO_14008001 HO14034 BK14007 HB hHeld ⊢
                refine pure_ (i := 1) (N := some 73) (v := ?_) (a' := ?_) #[false, true, false, false, false, false, false, false, false, false, false, false, false, false, false] rfl rfl (any_of HT_.out (by kernel_rfl)) (fun _ _ _ h => h) (Or.inl ⟨by rfl, ?_⟩) ?_ ?_
                rotate_left
                · intro w'
                  go_simp
                  with_reducible rfl
                rotate_left
                · simp only [Act.put, List.setIfInBounds_toArray, List.set_cons_zero, List.set_cons_succ, i64_w, i32_w]
                  rfl
                refine take_ (i := 0) (N := some 72) (v := ?_) (a' := ?_) #[true, true, false, false, false, false, false, false, false, false, false, false, false, false, false] rfl rfl (take_ofW HT_.out HW_.out (by kernel_rfl)) (fun _ _ _ h => h) (Or.inl ⟨by rfl, ?_⟩) hHeld ?_ ?_
                rotate_left
                · rintro w' ⟨s0, s1⟩
                  go_simp
                  with_reducible rfl
                rotate_left
                · simp only [Act.put, List.setIfInBounds_toArray, List.set_cons_zero, List.set_cons_succ, i64_w, i32_w]
                  rfl
                refine join_ (σ := Value × Value × Value × Value × Value × Value × Nat) 4 #[true, true, true, true, true, true, true, true, true, true, true, false, false, false, false] (fun s_ => [(74, .int .i64 t14035), (75, .agg #[s_.1, s_.2.1]), (76, .tuple #[.agg #[s_.2.2.1, s_.2.2.2.1], s_.2.2.2.2.1, .bool t14051, s_.2.2.2.2.2.1]), (15, .pointer (some ⟨s_.2.2.2.2.2.2, 0, none⟩)), (71, .tuple #[.agg #[s_.2.2.1, s_.2.2.2.1], s_.2.2.2.2.1, .bool t14051, s_.2.2.2.2.2.1]), (77, .agg #[s_.2.2.1, s_.2.2.2.1]), (78, s_.2.2.2.2.1), (79, .bool t14051), (80, s_.2.2.2.2.2.1)]) (fun s_ w' => (w'.cell? ⟨gb14007, 0, none⟩ = some (.slice Ao57 x14008000_2.length co57) ∧ w'.cell? ⟨gb14007, 1, none⟩ = some (.slice Ao58 x14008001_2.length co58)) ∧ (Kd.N (Kd.slice 5 (Kd.int .u8)) 22 w' w.heap.size (fun k_ => some k_ ≠ (s_.1 : Value).ownBlock ∧ some k_ ≠ (s_.2.1 : Value).ownBlock ∧ some k_ ≠ (s_.2.2.1 : Value).ownBlock ∧ some k_ ≠ (s_.2.2.2.1 : Value).ownBlock ∧ some k_ ≠ (s_.2.2.2.2.2.1 : Value).ownBlock ∧ some k_ ≠ (.slice Ao57 x14008000_2.length co57 : Value).ownBlock ∧ some k_ ≠ (.slice Ao58 x14008001_2.length co58 : Value).ownBlock ∧ k_ ≠ gb14007 ∧ k_ ≠ s_.2.2.2.2.2.2) v14033 y14032) ∧ (Kd.R (Kd.int .u8) 5 w' w.heap.size (fun k_ => some k_ ≠ (s_.2.1 : Value).ownBlock ∧ some k_ ≠ (s_.2.2.1 : Value).ownBlock ∧ some k_ ≠ (s_.2.2.2.1 : Value).ownBlock ∧ some k_ ≠ (.slice Ao57 x14008000_2.length co57 : Value).ownBlock ∧ some k_ ≠ (.slice Ao58 x14008001_2.length co58 : Value).ownBlock) s_.1 t14036) ∧ (Kd.R (Kd.int .u8) 5 w' w.heap.size (fun k_ => some k_ ≠ (s_.1 : Value).ownBlock ∧ some k_ ≠ (s_.2.2.1 : Value).ownBlock ∧ some k_ ≠ (s_.2.2.2.1 : Value).ownBlock ∧ some k_ ≠ (.slice Ao57 x14008000_2.length co57 : Value).ownBlock ∧ some k_ ≠ (.slice Ao58 x14008001_2.length co58 : Value).ownBlock) s_.2.1 t14039) ∧ (Kd.R (Kd.int .u8) 5 w' w.heap.size (fun k_ => some k_ ≠ (s_.1 : Value).ownBlock ∧ some k_ ≠ (s_.2.1 : Value).ownBlock ∧ some k_ ≠ (s_.2.2.2.1 : Value).ownBlock ∧ some k_ ≠ (.slice Ao57 x14008000_2.length co57 : Value).ownBlock ∧ some k_ ≠ (.slice Ao58 x14008001_2.length co58 : Value).ownBlock) s_.2.2.1 t14042) ∧ (Kd.R (Kd.int .u8) 5 w' w.heap.size (fun k_ => some k_ ≠ (s_.1 : Value).ownBlock ∧ some k_ ≠ (s_.2.1 : Value).ownBlock ∧ some k_ ≠ (s_.2.2.1 : Value).ownBlock ∧ some k_ ≠ (.slice Ao57 x14008000_2.length co57 : Value).ownBlock ∧ some k_ ≠ (.slice Ao58 x14008001_2.length co58 : Value).ownBlock) s_.2.2.2.1 t14045) ∧ (Kd.V (Kd.int .u8) 5 w' w.heap.size (fun k_ => some k_ ≠ (v14033 : Value).ownBlock ∧ some k_ ≠ (s_.1 : Value).ownBlock ∧ some k_ ≠ (s_.2.1 : Value).ownBlock ∧ some k_ ≠ (s_.2.2.1 : Value).ownBlock ∧ some k_ ≠ (s_.2.2.2.1 : Value).ownBlock ∧ some k_ ≠ (s_.2.2.2.2.2.1 : Value).ownBlock ∧ some k_ ≠ (.slice Ao27 t14001.length co27 : Value).ownBlock ∧ some k_ ≠ (.slice Ao52 t14004.length co52 : Value).ownBlock ∧ some k_ ≠ (.slice Ao57 x14008000_2.length co57 : Value).ownBlock ∧ some k_ ≠ (.slice Ao58 x14008001_2.length co58 : Value).ownBlock ∧ k_ ≠ gb14007 ∧ k_ ≠ s_.2.2.2.2.2.2) s_.2.2.2.2.1 t14048) ∧ (Kd.N (Kd.slice 5 (Kd.int .u8)) 22 w' w.heap.size (fun k_ => some k_ ≠ (v14033 : Value).ownBlock ∧ some k_ ≠ (s_.1 : Value).ownBlock ∧ some k_ ≠ (s_.2.1 : Value).ownBlock ∧ some k_ ≠ (s_.2.2.1 : Value).ownBlock ∧ some k_ ≠ (s_.2.2.2.1 : Value).ownBlock ∧ some k_ ≠ (.slice Ao27 t14001.length co27 : Value).ownBlock ∧ some k_ ≠ (.slice Ao52 t14004.length co52 : Value).ownBlock ∧ some k_ ≠ (.slice Ao57 x14008000_2.length co57 : Value).ownBlock ∧ some k_ ≠ (.slice Ao58 x14008001_2.length co58 : Value).ownBlock ∧ k_ ≠ gb14007 ∧ k_ ≠ s_.2.2.2.2.2.2) s_.2.2.2.2.2.1 t14052) ∧ (Kd.N (Kd.slice 5 (Kd.int .u8)) 22 w' w.heap.size (fun k_ => some k_ ≠ (v14033 : Value).ownBlock ∧ some k_ ≠ (s_.1 : Value).ownBlock ∧ some k_ ≠ (s_.2.1 : Value).ownBlock ∧ some k_ ≠ (s_.2.2.1 : Value).ownBlock ∧ some k_ ≠ (s_.2.2.2.1 : Value).ownBlock ∧ some k_ ≠ (s_.2.2.2.2.2.1 : Value).ownBlock ∧ some k_ ≠ (.slice Ao52 t14004.length co52 : Value).ownBlock ∧ some k_ ≠ (.slice Ao57 x14008000_2.length co57 : Value).ownBlock ∧ some k_ ≠ (.slice Ao58 x14008001_2.length co58 : Value).ownBlock ∧ k_ ≠ gb14007 ∧ k_ ≠ s_.2.2.2.2.2.2) (.slice Ao27 t14001.length co27) t14001) ∧ (Kd.N (Kd.slice 5 (Kd.int .u8)) 22 w' w.heap.size (fun k_ => some k_ ≠ (v14033 : Value).ownBlock ∧ some k_ ≠ (s_.1 : Value).ownBlock ∧ some k_ ≠ (s_.2.1 : Value).ownBlock ∧ some k_ ≠ (s_.2.2.1 : Value).ownBlock ∧ some k_ ≠ (s_.2.2.2.1 : Value).ownBlock ∧ some k_ ≠ (s_.2.2.2.2.2.1 : Value).ownBlock ∧ some k_ ≠ (.slice Ao27 t14001.length co27 : Value).ownBlock ∧ some k_ ≠ (.slice Ao57 x14008000_2.length co57 : Value).ownBlock ∧ some k_ ≠ (.slice Ao58 x14008001_2.length co58 : Value).ownBlock ∧ k_ ≠ gb14007 ∧ k_ ≠ s_.2.2.2.2.2.2) (.slice Ao52 t14004.length co52) t14004) ∧ (Kd.R (Kd.int .u8) 5 w' w.heap.size (fun k_ => some k_ ≠ (s_.1 : Value).ownBlock ∧ some k_ ≠ (s_.2.1 : Value).ownBlock ∧ some k_ ≠ (s_.2.2.1 : Value).ownBlock ∧ some k_ ≠ (s_.2.2.2.1 : Value).ownBlock ∧ some k_ ≠ (.slice Ao58 x14008001_2.length co58 : Value).ownBlock) (.slice Ao57 x14008000_2.length co57) x14008000_2) ∧ (Kd.R (Kd.int .u8) 5 w' w.heap.size (fun k_ => some k_ ≠ (s_.1 : Value).ownBlock ∧ some k_ ≠ (s_.2.1 : Value).ownBlock ∧ some k_ ≠ (s_.2.2.1 : Value).ownBlock ∧ some k_ ≠ (s_.2.2.2.1 : Value).ownBlock ∧ some k_ ≠ (.slice Ao57 x14008000_2.length co57 : Value).ownBlock) (.slice Ao58 x14008001_2.length co58) x14008001_2) ∧ (w'.heap[gb14007]? = some (.cells #[.slice Ao57 x14008000_2.length co57, .slice Ao58 x14008001_2.length co58] 24 (0, 0))) ∧ (w'.heap[s_.2.2.2.2.2.2]? = some (.cells #[.slice none 0 0, .slice none 0 0] 24 (0, 0))) ∧ (w.heap.size ≤ s_.2.2.2.2.2.2) ∧ (w.heap.size ≤ s_.2.2.2.2.2.2) ∧ (gb14007 ≠ s_.2.2.2.2.2.2) ∧ (s_.2.2.2.2.2.2 ≠ gb14007) ∧ (Below w.heap.size w w')) ?_ ?_
                rotate_left
                · intro hCont
                  refine two_ (i := 2) (j := 10) (Ni := some 74) (Nj := some 15) #[true, true, true, false, false, false, false, false, false, false, false, false, false, false, false] #[true, true, false, false, false, false, false, false, false, false, true, false, false, false, false] rfl rfl rfl rfl (two_of HT_.out (by kernel_rfl)) (by decide) (by decide) (fun K hK => ?_) (fun K hK => ?_)
                  · skip
                    refine goes_ Try.func27 (by kernel_rfl) rfl #[.int .i64 a2, .int .i64 5000] (by rfl) rfl rfl (by (try simp only [List.map_toArray, List.map_cons, List.map_nil]); first | done | rfl | (simp only [List.length_drop, List.length_take]; rfl)) ?_
                    with_reducible refine (customsmade_Within.calls a2 5000 t14035 _ A48.out).mono ?_
                    rintro e w' ⟨rfl, ⟨nd, rfl⟩⟩
                    refine ⟨_, rfl, ?_⟩
                    refine hK.out _ _ ⟨(blk_cell BK14007.out 0).trans rfl, (blk_cell BK14007.out 1).trans rfl⟩ (fun hHeld => ?_)
                    clear hK K
                    refine norm_ (a' := ?_) ?_ ?_
                    rotate_left
                    · show Act.put _ (some 74) _ = _
                      simp only [Act.put, List.setIfInBounds_toArray, List.set_cons_zero, List.set_cons_succ, i64_w, i32_w]
                      rfl
                    refine two_ (i := 3) (j := 10) (Ni := some 75) (Nj := some 15) #[true, true, true, true, false, false, false, false, false, false, false, false, false, false, false] #[true, true, true, false, false, false, false, false, false, false, true, false, false, false, false] rfl rfl rfl rfl (two_of HT_.out (by kernel_rfl)) (by decide) (by decide) (fun K hK => ?_) (fun K hK => ?_)
                    · skip
                      refine goes_ Try.func25 (by kernel_rfl) rfl #[.agg #[.slice Ao57 x14008000_2.length co57, .slice Ao58 x14008001_2.length co58], .int .i64 t14035] (by rfl) rfl rfl (by (try simp only [List.map_toArray, List.map_cons, List.map_nil]); first | done | rfl | (simp only [List.length_drop, List.length_take]; rfl)) ?_
                      with_reducible refine (disk_Crash.calls _ _ x14008000_2 _ _ x14008001_2 t14035 t14036 t14039 _ ?side1 ?side2 ?side3 ?side4 A49.out).mono ?_
                      (case side1 => exact Kd.C_ext (Kd.R_reads' HO_14008000.out).2.2)
                      (case side2 => exact (Kd.R_reads' HO_14008000.out).2.1)
                      (case side3 => exact Kd.C_ext (Kd.R_reads' HO_14008001.out).2.2)
                      (case side4 => exact (Kd.R_reads' HO_14008001.out).2.1)
                      rintro e w60 ⟨v14037, v14040, rfl, ho0, ho1, hb⟩
                      refine ⟨_, rfl, ?_⟩
                      have n5_ := Aside0.mk (Kd.R_lower (Kd.R_new' (Kd.R_new' ho0 (Kd.R_lt (Kd.R_ext HO_14008000.out))) (Kd.R_lt (Kd.R_ext HO_14008001.out))) (below_size (below_extB HB.out)))
                      have n6_ := Aside0.mk (Kd.R_lower (Kd.R_new' (Kd.R_new' ho1 (Kd.R_lt (Kd.R_ext HO_14008000.out))) (Kd.R_lt (Kd.R_ext HO_14008001.out))) (below_size (below_extB HB.out)))
                      have HO14038 := n5_
                      have HO14041 := n6_
                      replace HO_0 := tdN2 HO_0 hb (Kd.R_base ho0) (Kd.R_base ho1)
                      replace HO_1 := tdN2 HO_1 hb (Kd.R_base ho0) (Kd.R_base ho1)
                      replace HO_14008000 := tdR2 HO_14008000 hb (Kd.R_base ho0) (Kd.R_base ho1)
                      replace HO_14008001 := tdR2 HO_14008001 hb (Kd.R_base ho0) (Kd.R_base ho1)
                      replace HO14034 := tdN2 HO14034 hb (Kd.R_base ho0) (Kd.R_base ho1)
                      replace BK14007 := mvB BK14007 hb
                      replace HB := mvH HB hb
                      clear n5_ n6_
                      (try clear hb)
                      (try clear hb2)
                      (try clear hk)
                      (try clear hi)
                      (try clear ho0)
                      (try clear ho1)
                      obtain ⟨Ao61, co61, eo61⟩ := Kd.R_slice HO14038.out
                      (first | subst eo61 | (injection eo61 with f1_ f2_ f3_; have f4_ := f1_.symm; have f5_ := f3_.symm; clear f1_ f2_ f3_; subst f4_; subst f5_))
                      obtain ⟨Ao62, co62, eo62⟩ := Kd.R_slice HO14041.out
                      (first | subst eo62 | (injection eo62 with f1_ f2_ f3_; have f4_ := f1_.symm; have f5_ := f3_.symm; clear f1_ f2_ f3_; subst f4_; subst f5_))
                      refine hK.out _ _ ⟨(blk_cell BK14007.out 0).trans rfl, (blk_cell BK14007.out 1).trans rfl⟩ (fun hHeld => ?_)
                      clear hK K
                      refine norm_ (a' := ?_) ?_ ?_
                      rotate_left
                      · show Act.put _ (some 75) _ = _
                        simp only [Act.put, List.setIfInBounds_toArray, List.set_cons_zero, List.set_cons_succ, i64_w, i32_w]
                        rfl
                      refine two_ (i := 4) (j := 10) (Ni := some 76) (Nj := some 15) #[true, true, true, true, true, false, false, false, false, false, false, false, false, false, false] #[true, true, true, true, false, false, false, false, false, false, true, false, false, false, false] rfl rfl rfl rfl (two_of HT_.out (by kernel_rfl)) (by decide) (by decide) (fun K hK => ?_) (fun K hK => ?_)
                      · skip
                        refine goes_ Try.func61 (by kernel_rfl) rfl #[.agg #[.slice Ao61 t14036.length co61, .slice Ao62 t14039.length co62]] (by rfl) rfl rfl (by (try simp only [List.map_toArray, List.map_cons, List.map_nil]); first | done | rfl | (simp only [List.length_drop, List.length_take]; rfl)) ?_
                        with_reducible refine (journal_Open.calls k2 _ _ t14036 _ _ t14039 t14042 t14045 t14048 t14051 t14052 _ ?side1 ?side2 ?side3 ?side4 A50.out).mono ?_
                        (case side1 => exact Kd.C_ext (Kd.R_reads' HO14038.out).2.2)
                        (case side2 => exact (Kd.R_reads' HO14038.out).2.1)
                        (case side3 => exact Kd.C_ext (Kd.R_reads' HO14041.out).2.2)
                        (case side4 => exact (Kd.R_reads' HO14041.out).2.1)
                        rintro e w63 ⟨v14043, v14046, v14049, v14053, rfl, ho0, ho1, ho2, ho3, hb⟩
                        refine ⟨_, rfl, ?_⟩
                        have n7_ := Aside0.mk (Kd.R_lower (Kd.R_new' (Kd.R_new' (Kd.R_new' (Kd.R_new' (Kd.R_mono (ok' := fun k_ => some k_ ≠ (v14046 : Value).ownBlock) ho0 (fun _ hk_ => hk_.2)) (Kd.R_lt (Kd.R_ext HO_14008000.out))) (Kd.R_lt (Kd.R_ext HO_14008001.out))) (Kd.R_lt (Kd.R_ext HO14038.out))) (Kd.R_lt (Kd.R_ext HO14041.out))) (below_size (below_extB HB.out)))
                        have n8_ := Aside0.mk (Kd.R_lower (Kd.R_new' (Kd.R_new' (Kd.R_new' (Kd.R_new' (Kd.R_mono (ok' := fun k_ => some k_ ≠ (v14043 : Value).ownBlock) ho1 (fun _ hk_ => hk_.2)) (Kd.R_lt (Kd.R_ext HO_14008000.out))) (Kd.R_lt (Kd.R_ext HO_14008001.out))) (Kd.R_lt (Kd.R_ext HO14038.out))) (Kd.R_lt (Kd.R_ext HO14041.out))) (below_size (below_extB HB.out)))
                        have n9_ := Aside0.mk (Kd.V_lower (Kd.V_mono (ok' := fun k_ => some k_ ≠ (v14043 : Value).ownBlock ∧ some k_ ≠ (v14046 : Value).ownBlock ∧ some k_ ≠ (v14053 : Value).ownBlock ∧ some k_ ≠ (.slice Ao27 t14001.length co27 : Value).ownBlock ∧ some k_ ≠ (.slice Ao52 t14004.length co52 : Value).ownBlock ∧ some k_ ≠ (.slice Ao57 x14008000_2.length co57 : Value).ownBlock ∧ some k_ ≠ (.slice Ao58 x14008001_2.length co58 : Value).ownBlock ∧ some k_ ≠ (v14033 : Value).ownBlock ∧ some k_ ≠ (.slice Ao61 t14036.length co61 : Value).ownBlock ∧ some k_ ≠ (.slice Ao62 t14039.length co62 : Value).ownBlock ∧ k_ ≠ gb14007) ho2 (fun k_ hk_ => ⟨hk_.2.1, hk_.2.2.1, hk_.2.2.2, (Kd.fresh' (Kd.N_lt (Kd.N_ext HO_0.out)) k_ hk_.1), (Kd.fresh' (Kd.N_lt (Kd.N_ext HO_1.out)) k_ hk_.1), (Kd.fresh' (Kd.R_lt (Kd.R_ext HO_14008000.out)) k_ hk_.1), (Kd.fresh' (Kd.R_lt (Kd.R_ext HO_14008001.out)) k_ hk_.1), (Kd.fresh' (Kd.N_lt (Kd.N_ext HO14034.out)) k_ hk_.1), (Kd.fresh' (Kd.R_lt (Kd.R_ext HO14038.out)) k_ hk_.1), (Kd.fresh' (Kd.R_lt (Kd.R_ext HO14041.out)) k_ hk_.1), (Kd.freshB (blk_ext BK14007.out) k_ hk_.1)⟩)) (below_size (below_extB HB.out)))
                        have n10_ := Aside0.mk (Kd.N_lower (Kd.N_mono (ok' := fun k_ => some k_ ≠ (v14043 : Value).ownBlock ∧ some k_ ≠ (v14046 : Value).ownBlock ∧ some k_ ≠ (.slice Ao27 t14001.length co27 : Value).ownBlock ∧ some k_ ≠ (.slice Ao52 t14004.length co52 : Value).ownBlock ∧ some k_ ≠ (.slice Ao57 x14008000_2.length co57 : Value).ownBlock ∧ some k_ ≠ (.slice Ao58 x14008001_2.length co58 : Value).ownBlock ∧ some k_ ≠ (v14033 : Value).ownBlock ∧ some k_ ≠ (.slice Ao61 t14036.length co61 : Value).ownBlock ∧ some k_ ≠ (.slice Ao62 t14039.length co62 : Value).ownBlock ∧ k_ ≠ gb14007) ho3 (fun k_ hk_ => ⟨hk_.2.1, hk_.2.2, (Kd.fresh' (Kd.N_lt (Kd.N_ext HO_0.out)) k_ hk_.1), (Kd.fresh' (Kd.N_lt (Kd.N_ext HO_1.out)) k_ hk_.1), (Kd.fresh' (Kd.R_lt (Kd.R_ext HO_14008000.out)) k_ hk_.1), (Kd.fresh' (Kd.R_lt (Kd.R_ext HO_14008001.out)) k_ hk_.1), (Kd.fresh' (Kd.N_lt (Kd.N_ext HO14034.out)) k_ hk_.1), (Kd.fresh' (Kd.R_lt (Kd.R_ext HO14038.out)) k_ hk_.1), (Kd.fresh' (Kd.R_lt (Kd.R_ext HO14041.out)) k_ hk_.1), (Kd.freshB (blk_ext BK14007.out) k_ hk_.1)⟩)) (below_size (below_extB HB.out)))
                        have HO14044 := n7_
                        have HO14047 := n8_
                        have HO14050 := n9_
                        have HO14054 := n10_
                        replace HO_0 := tdN3 HO_0 hb (Kd.R_base ho0) (Kd.R_base ho1) (Kd.N_base ho3)
                        replace HO_1 := tdN3 HO_1 hb (Kd.R_base ho0) (Kd.R_base ho1) (Kd.N_base ho3)
                        replace HO_14008000 := tdR2 HO_14008000 hb (Kd.R_base ho0) (Kd.R_base ho1)
                        replace HO_14008001 := tdR2 HO_14008001 hb (Kd.R_base ho0) (Kd.R_base ho1)
                        replace HO14034 := tdN3 HO14034 hb (Kd.R_base ho0) (Kd.R_base ho1) (Kd.N_base ho3)
                        replace HO14038 := tdR2 HO14038 hb (Kd.R_base ho0) (Kd.R_base ho1)
                        replace HO14041 := tdR2 HO14041 hb (Kd.R_base ho0) (Kd.R_base ho1)
                        replace BK14007 := mvB BK14007 hb
                        replace HB := mvH HB hb
                        clear n7_ n8_ n9_ n10_
                        (try clear hb)
                        (try clear hb2)
                        (try clear hk)
                        (try clear hi)
                        (try clear ho0)
                        (try clear ho1)
                        (try clear ho2)
                        (try clear ho3)
                        refine hK.out _ _ ⟨(blk_cell BK14007.out 0).trans rfl, (blk_cell BK14007.out 1).trans rfl⟩ (fun hHeld => ?_)
                        clear hK K
                        refine norm_ (a' := ?_) ?_ ?_
                        rotate_left
                        · show Act.put _ (some 76) _ = _
                          simp only [Act.put, List.setIfInBounds_toArray, List.set_cons_zero, List.set_cons_succ, i64_w, i32_w]
                          rfl
                        refine pure_ (i := 5) (N := some 71) (v := ?_) (a' := ?_) #[true, true, true, true, true, true, false, false, false, false, false, false, false, false, false] rfl rfl (any_of HT_.out (by kernel_rfl)) (fun _ _ _ h => h) (Or.inl ⟨by rfl, ?_⟩) ?_ ?_
                        rotate_left
                        · intro w'
                          go_simp
                          with_reducible rfl
                        rotate_left
                        · simp only [Act.put, List.setIfInBounds_toArray, List.set_cons_zero, List.set_cons_succ, i64_w, i32_w]
                          rfl
                        refine pure_ (i := 6) (N := some 77) (v := ?_) (a' := ?_) #[true, true, true, true, true, true, true, false, false, false, false, false, false, false, false] rfl rfl (any_of HT_.out (by kernel_rfl)) (fun _ _ _ h => h) (Or.inl ⟨by rfl, ?_⟩) ?_ ?_
                        rotate_left
                        · intro w'
                          go_simp
                          with_reducible rfl
                        rotate_left
                        · simp only [Act.put, List.setIfInBounds_toArray, List.set_cons_zero, List.set_cons_succ, i64_w, i32_w]
                          rfl
                        refine pure_ (i := 7) (N := some 78) (v := ?_) (a' := ?_) #[true, true, true, true, true, true, true, true, false, false, false, false, false, false, false] rfl rfl (any_of HT_.out (by kernel_rfl)) (fun _ _ _ h => h) (Or.inl ⟨by rfl, ?_⟩) ?_ ?_
                        rotate_left
                        · intro w'
                          go_simp
                          with_reducible rfl
                        rotate_left
                        · simp only [Act.put, List.setIfInBounds_toArray, List.set_cons_zero, List.set_cons_succ, i64_w, i32_w]
                          rfl
                        refine pure_ (i := 8) (N := some 79) (v := ?_) (a' := ?_) #[true, true, true, true, true, true, true, true, true, false, false, false, false, false, false] rfl rfl (any_of HT_.out (by kernel_rfl)) (fun _ _ _ h => h) (Or.inl ⟨by rfl, ?_⟩) ?_ ?_
                        rotate_left
                        · intro w'
                          go_simp
                          with_reducible rfl
                        rotate_left
                        · simp only [Act.put, List.setIfInBounds_toArray, List.set_cons_zero, List.set_cons_succ, i64_w, i32_w]
                          rfl
                        refine pure_ (i := 9) (N := some 80) (v := ?_) (a' := ?_) #[true, true, true, true, true, true, true, true, true, true, false, false, false, false, false] rfl rfl (any_of HT_.out (by kernel_rfl)) (fun _ _ _ h => h) (Or.inl ⟨by rfl, ?_⟩) ?_ ?_
                        rotate_left
                        · intro w'
                          go_simp
                          with_reducible rfl
                        rotate_left
                        · simp only [Act.put, List.setIfInBounds_toArray, List.set_cons_zero, List.set_cons_succ, i64_w, i32_w]
                          rfl
                        refine one_ (i := 10) (N := some 15) #[true, true, true, true, true, true, true, true, true, true, true, false, false, false, false] rfl rfl (one_of HT_.out (by kernel_rfl)) (by decide) (fun K hK => ?_)
                        refine box_step ?hg (N := 15) ?hd (cs := #[.slice none 0 0, .slice none 0 0]) (t := 24) ?hr ?_; (case hd => rfl); (case hg => rfl); (case hr => first | (go_simp; done) | (go_simp; rfl))
                        intro gb14055 hg w64 hbox hb
                        have n13_ := Aside0.mk (hbox)
                        have n14_ := Aside0.mk ((by rw [hg]; exact (below_size (below_extB HB.out)) : w.heap.size ≤ gb14055))
                        have n15_ := Aside0.mk ((by rw [hg]; exact (below_size (below_extB HB.out)) : w.heap.size ≤ gb14055))
                        have n16_ := Aside0.mk ((by rw [hg]; exact Nat.ne_of_lt (blk_lt (blk_ext BK14007.out)) : gb14007 ≠ gb14055))
                        have n17_ := Aside0.mk ((by rw [hg]; exact Nat.ne_of_gt (blk_lt (blk_ext BK14007.out)) : gb14055 ≠ gb14007))
                        have BK14055 := n13_
                        have GW14055 := n14_
                        have GE14055 := n15_; have GI14055 := GE_.mk GE14055.out
                        have NB14007_14055 := n16_; have NI14007_14055 := NE_.mk NB14007_14055.out
                        have NB14055_14007 := n17_; have NI14055_14007 := NE_.mk NB14055_14007.out
                        replace HO_0 := awN HO_0 hb gb14055 hg
                        replace HO_1 := awN HO_1 hb gb14055 hg
                        replace HO_14008000 := mvR HO_14008000 hb
                        replace HO_14008001 := mvR HO_14008001 hb
                        replace HO14034 := awN HO14034 hb gb14055 hg
                        replace HO14038 := mvR HO14038 hb
                        replace HO14041 := mvR HO14041 hb
                        replace HO14044 := mvR HO14044 hb
                        replace HO14047 := mvR HO14047 hb
                        replace HO14050 := awV HO14050 hb gb14055 hg
                        replace HO14054 := awN HO14054 hb gb14055 hg
                        replace BK14007 := mvB BK14007 hb
                        replace HB := mvH HB hb
                        clear n13_ n14_ n15_ n16_ n17_
                        clear hb hbox hg
                        refine hK.out _ _ ⟨(blk_cell BK14007.out 0).trans rfl, (blk_cell BK14007.out 1).trans rfl⟩ (fun hHeld => ?_)
                        clear hK K
                        refine norm_ (a' := ?_) ?_ ?_
                        rotate_left
                        · show Act.put _ (some 15) _ = _
                          simp only [Act.put, List.setIfInBounds_toArray, List.set_cons_zero, List.set_cons_succ, i64_w, i32_w]
                          rfl
                        exact norm_ (by simp only [putAll, Act.put, List.setIfInBounds_toArray, List.set_cons_zero, List.set_cons_succ]) (hCont (.slice Ao61 t14036.length co61, .slice Ao62 t14039.length co62, v14043, v14046, v14049, v14053, gb14055) _ ⟨hHeld, (Kd.N_ext (Kd.N_mono HO14034.out (fun _ hk => ⟨hk.1.1.1.1.1.2, ⟨hk.1.1.1.1.2, ⟨hk.1.1.1.2, ⟨hk.1.1.2, ⟨hk.1.2, ⟨hk.1.1.1.1.1.1.1, ⟨hk.1.1.1.1.1.1.2.1, ⟨hk.1.1.1.1.1.1.2.2, hk.2⟩⟩⟩⟩⟩⟩⟩⟩))), (Kd.R_ext (Kd.R_mono HO14038.out (fun _ hk => ⟨hk.1.1.1.1, ⟨hk.1.2, ⟨hk.2, ⟨hk.1.1.1.2, hk.1.1.2⟩⟩⟩⟩))), (Kd.R_ext (Kd.R_mono HO14041.out (fun _ hk => ⟨hk.1.1.1.1, ⟨hk.1.2, ⟨hk.2, ⟨hk.1.1.1.2, hk.1.1.2⟩⟩⟩⟩))), (Kd.R_ext (Kd.R_mono HO14044.out (fun _ hk => ⟨hk.1.2, ⟨hk.2, ⟨hk.1.1.1.1, ⟨hk.1.1.1.2, hk.1.1.2⟩⟩⟩⟩))), (Kd.R_ext (Kd.R_mono HO14047.out (fun _ hk => ⟨hk.1.2, ⟨hk.2, ⟨hk.1.1.1.1, ⟨hk.1.1.1.2, hk.1.1.2⟩⟩⟩⟩))), (Kd.V_ext (Kd.V_mono HO14050.out (fun _ hk => ⟨hk.1.2.2.2.2.2.2.2.1, ⟨hk.1.2.2.2.2.2.2.2.2.1, ⟨hk.1.2.2.2.2.2.2.2.2.2.1, ⟨hk.1.1, ⟨hk.1.2.1, ⟨hk.1.2.2.1, ⟨hk.1.2.2.2.1, ⟨hk.1.2.2.2.2.1, ⟨hk.1.2.2.2.2.2.1, ⟨hk.1.2.2.2.2.2.2.1, ⟨hk.1.2.2.2.2.2.2.2.2.2.2, hk.2⟩⟩⟩⟩⟩⟩⟩⟩⟩⟩⟩))), (Kd.N_ext (Kd.N_mono HO14054.out (fun _ hk => ⟨hk.1.2.2.2.2.2.2.1, ⟨hk.1.2.2.2.2.2.2.2.1, ⟨hk.1.2.2.2.2.2.2.2.2.1, ⟨hk.1.1, ⟨hk.1.2.1, ⟨hk.1.2.2.1, ⟨hk.1.2.2.2.1, ⟨hk.1.2.2.2.2.1, ⟨hk.1.2.2.2.2.2.1, ⟨hk.1.2.2.2.2.2.2.2.2.2, hk.2⟩⟩⟩⟩⟩⟩⟩⟩⟩⟩))), (Kd.N_ext (Kd.N_mono HO_0.out (fun _ hk => ⟨hk.1.1.1.1.1.1.2, ⟨hk.1.1.1.1.1.2, ⟨hk.1.1.1.1.2, ⟨hk.1.1.1.2, ⟨hk.1.1.2, ⟨hk.1.2, ⟨hk.1.1.1.1.1.1.1.1, ⟨hk.1.1.1.1.1.1.1.2.1, ⟨hk.1.1.1.1.1.1.1.2.2.1, ⟨hk.1.1.1.1.1.1.1.2.2.2, hk.2⟩⟩⟩⟩⟩⟩⟩⟩⟩⟩))), (Kd.N_ext (Kd.N_mono HO_1.out (fun _ hk => ⟨hk.1.1.1.1.1.1.2, ⟨hk.1.1.1.1.1.2, ⟨hk.1.1.1.1.2, ⟨hk.1.1.1.2, ⟨hk.1.1.2, ⟨hk.1.2, ⟨hk.1.1.1.1.1.1.1.1, ⟨hk.1.1.1.1.1.1.1.2.1, ⟨hk.1.1.1.1.1.1.1.2.2.1, ⟨hk.1.1.1.1.1.1.1.2.2.2, hk.2⟩⟩⟩⟩⟩⟩⟩⟩⟩⟩))), (Kd.R_ext (Kd.R_mono HO_14008000.out (fun _ hk => ⟨hk.1.1.1.2, ⟨hk.1.1.2, ⟨hk.1.2, ⟨hk.2, hk.1.1.1.1⟩⟩⟩⟩))), (Kd.R_ext (Kd.R_mono HO_14008001.out (fun _ hk => ⟨hk.1.1.1.2, ⟨hk.1.1.2, ⟨hk.1.2, ⟨hk.2, hk.1.1.1.1⟩⟩⟩⟩))), (blk_ext BK14007.out), (blk_ext BK14055.out), GW14055.out, GE14055.out, NB14007_14055.out, NB14055_14007.out, (below_extB HB.out)⟩)
                      · skip
                        refine box_step ?hg (N := 15) ?hd (cs := #[.slice none 0 0, .slice none 0 0]) (t := 24) ?hr ?_; (case hd => rfl); (case hg => rfl); (case hr => first | (go_simp; done) | (go_simp; rfl))
                        intro gb14055 hg w61 hbox hb
                        have n9_ := Aside0.mk (hbox)
                        have n10_ := Aside0.mk ((by rw [hg]; exact (below_size (below_extB HB.out)) : w.heap.size ≤ gb14055))
                        have n11_ := Aside0.mk ((by rw [hg]; exact (below_size (below_extB HB.out)) : w.heap.size ≤ gb14055))
                        have n12_ := Aside0.mk ((by rw [hg]; exact Nat.ne_of_lt (blk_lt (blk_ext BK14007.out)) : gb14007 ≠ gb14055))
                        have n13_ := Aside0.mk ((by rw [hg]; exact Nat.ne_of_gt (blk_lt (blk_ext BK14007.out)) : gb14055 ≠ gb14007))
                        have BK14055 := n9_
                        have GW14055 := n10_
                        have GE14055 := n11_; have GI14055 := GE_.mk GE14055.out
                        have NB14007_14055 := n12_; have NI14007_14055 := NE_.mk NB14007_14055.out
                        have NB14055_14007 := n13_; have NI14055_14007 := NE_.mk NB14055_14007.out
                        replace HO_0 := awN HO_0 hb gb14055 hg
                        replace HO_1 := awN HO_1 hb gb14055 hg
                        replace HO_14008000 := mvR HO_14008000 hb
                        replace HO_14008001 := mvR HO_14008001 hb
                        replace HO14034 := awN HO14034 hb gb14055 hg
                        replace HO14038 := mvR HO14038 hb
                        replace HO14041 := mvR HO14041 hb
                        replace BK14007 := mvB BK14007 hb
                        replace HB := mvH HB hb
                        clear n9_ n10_ n11_ n12_ n13_
                        clear hb hbox hg
                        obtain ⟨Ao62, co62, eo62⟩ := Kd.R_slice HO14038.out
                        (first | subst eo62 | (injection eo62 with f1_ f2_ f3_; have f4_ := f1_.symm; have f5_ := f3_.symm; clear f1_ f2_ f3_; subst f4_; subst f5_))
                        obtain ⟨Ao63, co63, eo63⟩ := Kd.R_slice HO14041.out
                        (first | subst eo63 | (injection eo63 with f1_ f2_ f3_; have f4_ := f1_.symm; have f5_ := f3_.symm; clear f1_ f2_ f3_; subst f4_; subst f5_))
                        refine hK.out _ _ ⟨(blk_cell BK14007.out 0).trans rfl, (blk_cell BK14007.out 1).trans rfl⟩ (fun hHeld => ?_)
                        clear hK K
                        refine norm_ (a' := ?_) ?_ ?_
                        rotate_left
                        · show Act.put _ (some 15) _ = _
                          simp only [Act.put, List.setIfInBounds_toArray, List.set_cons_zero, List.set_cons_succ, i64_w, i32_w]
                          rfl
                        refine one_ (i := 4) (N := some 76) #[true, true, true, true, true, false, false, false, false, false, true, false, false, false, false] rfl rfl (one_of HT_.out (by kernel_rfl)) (by decide) (fun K hK => ?_)
                        refine goes_ Try.func61 (by kernel_rfl) rfl #[.agg #[.slice Ao62 t14036.length co62, .slice Ao63 t14039.length co63]] (by rfl) rfl rfl (by (try simp only [List.map_toArray, List.map_cons, List.map_nil]); first | done | rfl | (simp only [List.length_drop, List.length_take]; rfl)) ?_
                        with_reducible refine (journal_Open.calls k2 _ _ t14036 _ _ t14039 t14042 t14045 t14048 t14051 t14052 _ ?side1 ?side2 ?side3 ?side4 A50.out).mono ?_
                        (case side1 => exact Kd.C_ext (Kd.R_reads' HO14038.out).2.2)
                        (case side2 => exact (Kd.R_reads' HO14038.out).2.1)
                        (case side3 => exact Kd.C_ext (Kd.R_reads' HO14041.out).2.2)
                        (case side4 => exact (Kd.R_reads' HO14041.out).2.1)
                        rintro e w64 ⟨v14043, v14046, v14049, v14053, rfl, ho0, ho1, ho2, ho3, hb⟩
                        refine ⟨_, rfl, ?_⟩
                        have n7_ := Aside0.mk (Kd.R_lower (Kd.R_new' (Kd.R_new' (Kd.R_new' (Kd.R_new' (Kd.R_mono (ok' := fun k_ => some k_ ≠ (v14046 : Value).ownBlock) ho0 (fun _ hk_ => hk_.2)) (Kd.R_lt (Kd.R_ext HO_14008000.out))) (Kd.R_lt (Kd.R_ext HO_14008001.out))) (Kd.R_lt (Kd.R_ext HO14038.out))) (Kd.R_lt (Kd.R_ext HO14041.out))) (below_size (below_extB HB.out)))
                        have n8_ := Aside0.mk (Kd.R_lower (Kd.R_new' (Kd.R_new' (Kd.R_new' (Kd.R_new' (Kd.R_mono (ok' := fun k_ => some k_ ≠ (v14043 : Value).ownBlock) ho1 (fun _ hk_ => hk_.2)) (Kd.R_lt (Kd.R_ext HO_14008000.out))) (Kd.R_lt (Kd.R_ext HO_14008001.out))) (Kd.R_lt (Kd.R_ext HO14038.out))) (Kd.R_lt (Kd.R_ext HO14041.out))) (below_size (below_extB HB.out)))
                        have n9_ := Aside0.mk (Kd.V_lower (Kd.V_mono (ok' := fun k_ => some k_ ≠ (v14043 : Value).ownBlock ∧ some k_ ≠ (v14046 : Value).ownBlock ∧ some k_ ≠ (v14053 : Value).ownBlock ∧ some k_ ≠ (.slice Ao27 t14001.length co27 : Value).ownBlock ∧ some k_ ≠ (.slice Ao52 t14004.length co52 : Value).ownBlock ∧ some k_ ≠ (.slice Ao57 x14008000_2.length co57 : Value).ownBlock ∧ some k_ ≠ (.slice Ao58 x14008001_2.length co58 : Value).ownBlock ∧ some k_ ≠ (v14033 : Value).ownBlock ∧ some k_ ≠ (.slice Ao62 t14036.length co62 : Value).ownBlock ∧ some k_ ≠ (.slice Ao63 t14039.length co63 : Value).ownBlock ∧ k_ ≠ gb14007 ∧ k_ ≠ gb14055) ho2 (fun k_ hk_ => ⟨hk_.2.1, hk_.2.2.1, hk_.2.2.2, (Kd.fresh' (Kd.N_lt (Kd.N_ext HO_0.out)) k_ hk_.1), (Kd.fresh' (Kd.N_lt (Kd.N_ext HO_1.out)) k_ hk_.1), (Kd.fresh' (Kd.R_lt (Kd.R_ext HO_14008000.out)) k_ hk_.1), (Kd.fresh' (Kd.R_lt (Kd.R_ext HO_14008001.out)) k_ hk_.1), (Kd.fresh' (Kd.N_lt (Kd.N_ext HO14034.out)) k_ hk_.1), (Kd.fresh' (Kd.R_lt (Kd.R_ext HO14038.out)) k_ hk_.1), (Kd.fresh' (Kd.R_lt (Kd.R_ext HO14041.out)) k_ hk_.1), (Kd.freshB (blk_ext BK14007.out) k_ hk_.1), (Kd.freshB (blk_ext BK14055.out) k_ hk_.1)⟩)) (below_size (below_extB HB.out)))
                        have n10_ := Aside0.mk (Kd.N_lower (Kd.N_mono (ok' := fun k_ => some k_ ≠ (v14043 : Value).ownBlock ∧ some k_ ≠ (v14046 : Value).ownBlock ∧ some k_ ≠ (.slice Ao27 t14001.length co27 : Value).ownBlock ∧ some k_ ≠ (.slice Ao52 t14004.length co52 : Value).ownBlock ∧ some k_ ≠ (.slice Ao57 x14008000_2.length co57 : Value).ownBlock ∧ some k_ ≠ (.slice Ao58 x14008001_2.length co58 : Value).ownBlock ∧ some k_ ≠ (v14033 : Value).ownBlock ∧ some k_ ≠ (.slice Ao62 t14036.length co62 : Value).ownBlock ∧ some k_ ≠ (.slice Ao63 t14039.length co63 : Value).ownBlock ∧ k_ ≠ gb14007 ∧ k_ ≠ gb14055) ho3 (fun k_ hk_ => ⟨hk_.2.1, hk_.2.2, (Kd.fresh' (Kd.N_lt (Kd.N_ext HO_0.out)) k_ hk_.1), (Kd.fresh' (Kd.N_lt (Kd.N_ext HO_1.out)) k_ hk_.1), (Kd.fresh' (Kd.R_lt (Kd.R_ext HO_14008000.out)) k_ hk_.1), (Kd.fresh' (Kd.R_lt (Kd.R_ext HO_14008001.out)) k_ hk_.1), (Kd.fresh' (Kd.N_lt (Kd.N_ext HO14034.out)) k_ hk_.1), (Kd.fresh' (Kd.R_lt (Kd.R_ext HO14038.out)) k_ hk_.1), (Kd.fresh' (Kd.R_lt (Kd.R_ext HO14041.out)) k_ hk_.1), (Kd.freshB (blk_ext BK14007.out) k_ hk_.1), (Kd.freshB (blk_ext BK14055.out) k_ hk_.1)⟩)) (below_size (below_extB HB.out)))
                        have HO14044 := n7_
                        have HO14047 := n8_
                        have HO14050 := n9_
                        have HO14054 := n10_
                        replace HO_0 := tdN3 HO_0 hb (Kd.R_base ho0) (Kd.R_base ho1) (Kd.N_base ho3)
                        replace HO_1 := tdN3 HO_1 hb (Kd.R_base ho0) (Kd.R_base ho1) (Kd.N_base ho3)
                        replace HO_14008000 := tdR2 HO_14008000 hb (Kd.R_base ho0) (Kd.R_base ho1)
                        replace HO_14008001 := tdR2 HO_14008001 hb (Kd.R_base ho0) (Kd.R_base ho1)
                        replace HO14034 := tdN3 HO14034 hb (Kd.R_base ho0) (Kd.R_base ho1) (Kd.N_base ho3)
                        replace HO14038 := tdR2 HO14038 hb (Kd.R_base ho0) (Kd.R_base ho1)
                        replace HO14041 := tdR2 HO14041 hb (Kd.R_base ho0) (Kd.R_base ho1)
                        replace BK14007 := mvB BK14007 hb
                        replace BK14055 := mvB BK14055 hb
                        replace HB := mvH HB hb
                        clear n7_ n8_ n9_ n10_
                        (try clear hb)
                        (try clear hb2)
                        (try clear hk)
                        (try clear hi)
                        (try clear ho0)
                        (try clear ho1)
                        (try clear ho2)
                        (try clear ho3)
                        refine hK.out _ _ ⟨(blk_cell BK14007.out 0).trans rfl, (blk_cell BK14007.out 1).trans rfl⟩ (fun hHeld => ?_)
                        clear hK K
                        refine norm_ (a' := ?_) ?_ ?_
                        rotate_left
                        · show Act.put _ (some 76) _ = _
                          simp only [Act.put, List.setIfInBounds_toArray, List.set_cons_zero, List.set_cons_succ, i64_w, i32_w]
                          rfl
                        refine pure_ (i := 5) (N := some 71) (v := ?_) (a' := ?_) #[true, true, true, true, true, true, false, false, false, false, true, false, false, false, false] rfl rfl (any_of HT_.out (by kernel_rfl)) (fun _ _ _ h => h) (Or.inl ⟨by rfl, ?_⟩) ?_ ?_
                        rotate_left
                        · intro w'
                          go_simp
                          with_reducible rfl
                        rotate_left
                        · simp only [Act.put, List.setIfInBounds_toArray, List.set_cons_zero, List.set_cons_succ, i64_w, i32_w]
                          rfl
                        refine pure_ (i := 6) (N := some 77) (v := ?_) (a' := ?_) #[true, true, true, true, true, true, true, false, false, false, true, false, false, false, false] rfl rfl (any_of HT_.out (by kernel_rfl)) (fun _ _ _ h => h) (Or.inl ⟨by rfl, ?_⟩) ?_ ?_
                        rotate_left
                        · intro w'
                          go_simp
                          with_reducible rfl
                        rotate_left
                        · simp only [Act.put, List.setIfInBounds_toArray, List.set_cons_zero, List.set_cons_succ, i64_w, i32_w]
                          rfl
                        refine pure_ (i := 7) (N := some 78) (v := ?_) (a' := ?_) #[true, true, true, true, true, true, true, true, false, false, true, false, false, false, false] rfl rfl (any_of HT_.out (by kernel_rfl)) (fun _ _ _ h => h) (Or.inl ⟨by rfl, ?_⟩) ?_ ?_
                        rotate_left
                        · intro w'
                          go_simp
                          with_reducible rfl
                        rotate_left
                        · simp only [Act.put, List.setIfInBounds_toArray, List.set_cons_zero, List.set_cons_succ, i64_w, i32_w]
                          rfl
                        refine pure_ (i := 8) (N := some 79) (v := ?_) (a' := ?_) #[true, true, true, true, true, true, true, true, true, false, true, false, false, false, false] rfl rfl (any_of HT_.out (by kernel_rfl)) (fun _ _ _ h => h) (Or.inl ⟨by rfl, ?_⟩) ?_ ?_
                        rotate_left
                        · intro w'
                          go_simp
                          with_reducible rfl
                        rotate_left
                        · simp only [Act.put, List.setIfInBounds_toArray, List.set_cons_zero, List.set_cons_succ, i64_w, i32_w]
                          rfl
                        refine pure_ (i := 9) (N := some 80) (v := ?_) (a' := ?_) #[true, true, true, true, true, true, true, true, true, true, true, false, false, false, false] rfl rfl (any_of HT_.out (by kernel_rfl)) (fun _ _ _ h => h) (Or.inl ⟨by rfl, ?_⟩) ?_ ?_
                        rotate_left
                        · intro w'
                          go_simp
                          with_reducible rfl
                        rotate_left
                        · simp only [Act.put, List.setIfInBounds_toArray, List.set_cons_zero, List.set_cons_succ, i64_w, i32_w]
                          rfl
                        exact norm_ (by simp only [putAll, Act.put, List.setIfInBounds_toArray, List.set_cons_zero, List.set_cons_succ]) (hCont (.slice Ao62 t14036.length co62, .slice Ao63 t14039.length co63, v14043, v14046, v14049, v14053, gb14055) _ ⟨hHeld, (Kd.N_ext (Kd.N_mono HO14034.out (fun _ hk => ⟨hk.1.1.1.1.1.2, ⟨hk.1.1.1.1.2, ⟨hk.1.1.2, ⟨hk.1.2, ⟨hk.2, ⟨hk.1.1.1.1.1.1.1, ⟨hk.1.1.1.1.1.1.2.1, ⟨hk.1.1.1.1.1.1.2.2, hk.1.1.1.2⟩⟩⟩⟩⟩⟩⟩⟩))), (Kd.R_ext (Kd.R_mono HO14038.out (fun _ hk => ⟨hk.1.1.1.1, ⟨hk.1.2, ⟨hk.2, ⟨hk.1.1.1.2, hk.1.1.2⟩⟩⟩⟩))), (Kd.R_ext (Kd.R_mono HO14041.out (fun _ hk => ⟨hk.1.1.1.1, ⟨hk.1.2, ⟨hk.2, ⟨hk.1.1.1.2, hk.1.1.2⟩⟩⟩⟩))), (Kd.R_ext (Kd.R_mono HO14044.out (fun _ hk => ⟨hk.1.2, ⟨hk.2, ⟨hk.1.1.1.1, ⟨hk.1.1.1.2, hk.1.1.2⟩⟩⟩⟩))), (Kd.R_ext (Kd.R_mono HO14047.out (fun _ hk => ⟨hk.1.2, ⟨hk.2, ⟨hk.1.1.1.1, ⟨hk.1.1.1.2, hk.1.1.2⟩⟩⟩⟩))), (Kd.V_ext (Kd.V_mono HO14050.out (fun _ hk => ⟨hk.2.2.2.2.2.2.2.1, ⟨hk.2.2.2.2.2.2.2.2.1, ⟨hk.2.2.2.2.2.2.2.2.2.1, ⟨hk.1, ⟨hk.2.1, ⟨hk.2.2.1, ⟨hk.2.2.2.1, ⟨hk.2.2.2.2.1, ⟨hk.2.2.2.2.2.1, ⟨hk.2.2.2.2.2.2.1, ⟨hk.2.2.2.2.2.2.2.2.2.2.1, hk.2.2.2.2.2.2.2.2.2.2.2⟩⟩⟩⟩⟩⟩⟩⟩⟩⟩⟩))), (Kd.N_ext (Kd.N_mono HO14054.out (fun _ hk => ⟨hk.2.2.2.2.2.2.1, ⟨hk.2.2.2.2.2.2.2.1, ⟨hk.2.2.2.2.2.2.2.2.1, ⟨hk.1, ⟨hk.2.1, ⟨hk.2.2.1, ⟨hk.2.2.2.1, ⟨hk.2.2.2.2.1, ⟨hk.2.2.2.2.2.1, ⟨hk.2.2.2.2.2.2.2.2.2.1, hk.2.2.2.2.2.2.2.2.2.2⟩⟩⟩⟩⟩⟩⟩⟩⟩⟩))), (Kd.N_ext (Kd.N_mono HO_0.out (fun _ hk => ⟨hk.1.1.1.1.1.1.2, ⟨hk.1.1.1.1.1.2, ⟨hk.1.1.1.1.2, ⟨hk.1.1.2, ⟨hk.1.2, ⟨hk.2, ⟨hk.1.1.1.1.1.1.1.1, ⟨hk.1.1.1.1.1.1.1.2.1, ⟨hk.1.1.1.1.1.1.1.2.2.1, ⟨hk.1.1.1.1.1.1.1.2.2.2, hk.1.1.1.2⟩⟩⟩⟩⟩⟩⟩⟩⟩⟩))), (Kd.N_ext (Kd.N_mono HO_1.out (fun _ hk => ⟨hk.1.1.1.1.1.1.2, ⟨hk.1.1.1.1.1.2, ⟨hk.1.1.1.1.2, ⟨hk.1.1.2, ⟨hk.1.2, ⟨hk.2, ⟨hk.1.1.1.1.1.1.1.1, ⟨hk.1.1.1.1.1.1.1.2.1, ⟨hk.1.1.1.1.1.1.1.2.2.1, ⟨hk.1.1.1.1.1.1.1.2.2.2, hk.1.1.1.2⟩⟩⟩⟩⟩⟩⟩⟩⟩⟩))), (Kd.R_ext (Kd.R_mono HO_14008000.out (fun _ hk => ⟨hk.1.1.1.2, ⟨hk.1.1.2, ⟨hk.1.2, ⟨hk.2, hk.1.1.1.1⟩⟩⟩⟩))), (Kd.R_ext (Kd.R_mono HO_14008001.out (fun _ hk => ⟨hk.1.1.1.2, ⟨hk.1.1.2, ⟨hk.1.2, ⟨hk.2, hk.1.1.1.1⟩⟩⟩⟩))), (blk_ext BK14007.out), (blk_ext BK14055.out), GW14055.out, GE14055.out, NB14007_14055.out, NB14055_14007.out, (below_extB HB.out)⟩)
                    · skip
                      refine box_step ?hg (N := 15) ?hd (cs := #[.slice none 0 0, .slice none 0 0]) (t := 24) ?hr ?_; (case hd => rfl); (case hg => rfl); (case hr => first | (go_simp; done) | (go_simp; rfl))
                      intro gb14055 hg w60 hbox hb
                      have n7_ := Aside0.mk (hbox)
                      have n8_ := Aside0.mk ((by rw [hg]; exact (below_size (below_extB HB.out)) : w.heap.size ≤ gb14055))
                      have n9_ := Aside0.mk ((by rw [hg]; exact (below_size (below_extB HB.out)) : w.heap.size ≤ gb14055))
                      have n10_ := Aside0.mk ((by rw [hg]; exact Nat.ne_of_lt (blk_lt (blk_ext BK14007.out)) : gb14007 ≠ gb14055))
                      have n11_ := Aside0.mk ((by rw [hg]; exact Nat.ne_of_gt (blk_lt (blk_ext BK14007.out)) : gb14055 ≠ gb14007))
                      have BK14055 := n7_
                      have GW14055 := n8_
                      have GE14055 := n9_; have GI14055 := GE_.mk GE14055.out
                      have NB14007_14055 := n10_; have NI14007_14055 := NE_.mk NB14007_14055.out
                      have NB14055_14007 := n11_; have NI14055_14007 := NE_.mk NB14055_14007.out
                      replace HO_0 := awN HO_0 hb gb14055 hg
                      replace HO_1 := awN HO_1 hb gb14055 hg
                      replace HO_14008000 := mvR HO_14008000 hb
                      replace HO_14008001 := mvR HO_14008001 hb
                      replace HO14034 := awN HO14034 hb gb14055 hg
                      replace BK14007 := mvB BK14007 hb
                      replace HB := mvH HB hb
                      clear n7_ n8_ n9_ n10_ n11_
                      clear hb hbox hg
                      refine hK.out _ _ ⟨(blk_cell BK14007.out 0).trans rfl, (blk_cell BK14007.out 1).trans rfl⟩ (fun hHeld => ?_)
                      clear hK K
                      refine norm_ (a' := ?_) ?_ ?_
                      rotate_left
                      · show Act.put _ (some 15) _ = _
                        simp only [Act.put, List.setIfInBounds_toArray, List.set_cons_zero, List.set_cons_succ, i64_w, i32_w]
                        rfl
                      refine one_ (i := 3) (N := some 75) #[true, true, true, true, false, false, false, false, false, false, true, false, false, false, false] rfl rfl (one_of HT_.out (by kernel_rfl)) (by decide) (fun K hK => ?_)
                      refine goes_ Try.func25 (by kernel_rfl) rfl #[.agg #[.slice Ao57 x14008000_2.length co57, .slice Ao58 x14008001_2.length co58], .int .i64 t14035] (by rfl) rfl rfl (by (try simp only [List.map_toArray, List.map_cons, List.map_nil]); first | done | rfl | (simp only [List.length_drop, List.length_take]; rfl)) ?_
                      with_reducible refine (disk_Crash.calls _ _ x14008000_2 _ _ x14008001_2 t14035 t14036 t14039 _ ?side1 ?side2 ?side3 ?side4 A49.out).mono ?_
                      (case side1 => exact Kd.C_ext (Kd.R_reads' HO_14008000.out).2.2)
                      (case side2 => exact (Kd.R_reads' HO_14008000.out).2.1)
                      (case side3 => exact Kd.C_ext (Kd.R_reads' HO_14008001.out).2.2)
                      (case side4 => exact (Kd.R_reads' HO_14008001.out).2.1)
                      rintro e w61 ⟨v14037, v14040, rfl, ho0, ho1, hb⟩
                      refine ⟨_, rfl, ?_⟩
                      have n5_ := Aside0.mk (Kd.R_lower (Kd.R_new' (Kd.R_new' ho0 (Kd.R_lt (Kd.R_ext HO_14008000.out))) (Kd.R_lt (Kd.R_ext HO_14008001.out))) (below_size (below_extB HB.out)))
                      have n6_ := Aside0.mk (Kd.R_lower (Kd.R_new' (Kd.R_new' ho1 (Kd.R_lt (Kd.R_ext HO_14008000.out))) (Kd.R_lt (Kd.R_ext HO_14008001.out))) (below_size (below_extB HB.out)))
                      have HO14038 := n5_
                      have HO14041 := n6_
                      replace HO_0 := tdN2 HO_0 hb (Kd.R_base ho0) (Kd.R_base ho1)
                      replace HO_1 := tdN2 HO_1 hb (Kd.R_base ho0) (Kd.R_base ho1)
                      replace HO_14008000 := tdR2 HO_14008000 hb (Kd.R_base ho0) (Kd.R_base ho1)
                      replace HO_14008001 := tdR2 HO_14008001 hb (Kd.R_base ho0) (Kd.R_base ho1)
                      replace HO14034 := tdN2 HO14034 hb (Kd.R_base ho0) (Kd.R_base ho1)
                      replace BK14007 := mvB BK14007 hb
                      replace BK14055 := mvB BK14055 hb
                      replace HB := mvH HB hb
                      clear n5_ n6_
                      (try clear hb)
                      (try clear hb2)
                      (try clear hk)
                      (try clear hi)
                      (try clear ho0)
                      (try clear ho1)
                      obtain ⟨Ao62, co62, eo62⟩ := Kd.R_slice HO14038.out
                      (first | subst eo62 | (injection eo62 with f1_ f2_ f3_; have f4_ := f1_.symm; have f5_ := f3_.symm; clear f1_ f2_ f3_; subst f4_; subst f5_))
                      obtain ⟨Ao63, co63, eo63⟩ := Kd.R_slice HO14041.out
                      (first | subst eo63 | (injection eo63 with f1_ f2_ f3_; have f4_ := f1_.symm; have f5_ := f3_.symm; clear f1_ f2_ f3_; subst f4_; subst f5_))
                      refine hK.out _ _ ⟨(blk_cell BK14007.out 0).trans rfl, (blk_cell BK14007.out 1).trans rfl⟩ (fun hHeld => ?_)
                      clear hK K
                      refine norm_ (a' := ?_) ?_ ?_
                      rotate_left
                      · show Act.put _ (some 75) _ = _
                        simp only [Act.put, List.setIfInBounds_toArray, List.set_cons_zero, List.set_cons_succ, i64_w, i32_w]
                        rfl
                      refine one_ (i := 4) (N := some 76) #[true, true, true, true, true, false, false, false, false, false, true, false, false, false, false] rfl rfl (one_of HT_.out (by kernel_rfl)) (by decide) (fun K hK => ?_)
                      refine goes_ Try.func61 (by kernel_rfl) rfl #[.agg #[.slice Ao62 t14036.length co62, .slice Ao63 t14039.length co63]] (by rfl) rfl rfl (by (try simp only [List.map_toArray, List.map_cons, List.map_nil]); first | done | rfl | (simp only [List.length_drop, List.length_take]; rfl)) ?_
                      with_reducible refine (journal_Open.calls k2 _ _ t14036 _ _ t14039 t14042 t14045 t14048 t14051 t14052 _ ?side1 ?side2 ?side3 ?side4 A50.out).mono ?_
                      (case side1 => exact Kd.C_ext (Kd.R_reads' HO14038.out).2.2)
                      (case side2 => exact (Kd.R_reads' HO14038.out).2.1)
                      (case side3 => exact Kd.C_ext (Kd.R_reads' HO14041.out).2.2)
                      (case side4 => exact (Kd.R_reads' HO14041.out).2.1)
                      rintro e w64 ⟨v14043, v14046, v14049, v14053, rfl, ho0, ho1, ho2, ho3, hb⟩
                      refine ⟨_, rfl, ?_⟩
                      have n7_ := Aside0.mk (Kd.R_lower (Kd.R_new' (Kd.R_new' (Kd.R_new' (Kd.R_new' (Kd.R_mono (ok' := fun k_ => some k_ ≠ (v14046 : Value).ownBlock) ho0 (fun _ hk_ => hk_.2)) (Kd.R_lt (Kd.R_ext HO_14008000.out))) (Kd.R_lt (Kd.R_ext HO_14008001.out))) (Kd.R_lt (Kd.R_ext HO14038.out))) (Kd.R_lt (Kd.R_ext HO14041.out))) (below_size (below_extB HB.out)))
                      have n8_ := Aside0.mk (Kd.R_lower (Kd.R_new' (Kd.R_new' (Kd.R_new' (Kd.R_new' (Kd.R_mono (ok' := fun k_ => some k_ ≠ (v14043 : Value).ownBlock) ho1 (fun _ hk_ => hk_.2)) (Kd.R_lt (Kd.R_ext HO_14008000.out))) (Kd.R_lt (Kd.R_ext HO_14008001.out))) (Kd.R_lt (Kd.R_ext HO14038.out))) (Kd.R_lt (Kd.R_ext HO14041.out))) (below_size (below_extB HB.out)))
                      have n9_ := Aside0.mk (Kd.V_lower (Kd.V_mono (ok' := fun k_ => some k_ ≠ (v14043 : Value).ownBlock ∧ some k_ ≠ (v14046 : Value).ownBlock ∧ some k_ ≠ (v14053 : Value).ownBlock ∧ some k_ ≠ (.slice Ao27 t14001.length co27 : Value).ownBlock ∧ some k_ ≠ (.slice Ao52 t14004.length co52 : Value).ownBlock ∧ some k_ ≠ (.slice Ao57 x14008000_2.length co57 : Value).ownBlock ∧ some k_ ≠ (.slice Ao58 x14008001_2.length co58 : Value).ownBlock ∧ some k_ ≠ (v14033 : Value).ownBlock ∧ some k_ ≠ (.slice Ao62 t14036.length co62 : Value).ownBlock ∧ some k_ ≠ (.slice Ao63 t14039.length co63 : Value).ownBlock ∧ k_ ≠ gb14007 ∧ k_ ≠ gb14055) ho2 (fun k_ hk_ => ⟨hk_.2.1, hk_.2.2.1, hk_.2.2.2, (Kd.fresh' (Kd.N_lt (Kd.N_ext HO_0.out)) k_ hk_.1), (Kd.fresh' (Kd.N_lt (Kd.N_ext HO_1.out)) k_ hk_.1), (Kd.fresh' (Kd.R_lt (Kd.R_ext HO_14008000.out)) k_ hk_.1), (Kd.fresh' (Kd.R_lt (Kd.R_ext HO_14008001.out)) k_ hk_.1), (Kd.fresh' (Kd.N_lt (Kd.N_ext HO14034.out)) k_ hk_.1), (Kd.fresh' (Kd.R_lt (Kd.R_ext HO14038.out)) k_ hk_.1), (Kd.fresh' (Kd.R_lt (Kd.R_ext HO14041.out)) k_ hk_.1), (Kd.freshB (blk_ext BK14007.out) k_ hk_.1), (Kd.freshB (blk_ext BK14055.out) k_ hk_.1)⟩)) (below_size (below_extB HB.out)))
                      have n10_ := Aside0.mk (Kd.N_lower (Kd.N_mono (ok' := fun k_ => some k_ ≠ (v14043 : Value).ownBlock ∧ some k_ ≠ (v14046 : Value).ownBlock ∧ some k_ ≠ (.slice Ao27 t14001.length co27 : Value).ownBlock ∧ some k_ ≠ (.slice Ao52 t14004.length co52 : Value).ownBlock ∧ some k_ ≠ (.slice Ao57 x14008000_2.length co57 : Value).ownBlock ∧ some k_ ≠ (.slice Ao58 x14008001_2.length co58 : Value).ownBlock ∧ some k_ ≠ (v14033 : Value).ownBlock ∧ some k_ ≠ (.slice Ao62 t14036.length co62 : Value).ownBlock ∧ some k_ ≠ (.slice Ao63 t14039.length co63 : Value).ownBlock ∧ k_ ≠ gb14007 ∧ k_ ≠ gb14055) ho3 (fun k_ hk_ => ⟨hk_.2.1, hk_.2.2, (Kd.fresh' (Kd.N_lt (Kd.N_ext HO_0.out)) k_ hk_.1), (Kd.fresh' (Kd.N_lt (Kd.N_ext HO_1.out)) k_ hk_.1), (Kd.fresh' (Kd.R_lt (Kd.R_ext HO_14008000.out)) k_ hk_.1), (Kd.fresh' (Kd.R_lt (Kd.R_ext HO_14008001.out)) k_ hk_.1), (Kd.fresh' (Kd.N_lt (Kd.N_ext HO14034.out)) k_ hk_.1), (Kd.fresh' (Kd.R_lt (Kd.R_ext HO14038.out)) k_ hk_.1), (Kd.fresh' (Kd.R_lt (Kd.R_ext HO14041.out)) k_ hk_.1), (Kd.freshB (blk_ext BK14007.out) k_ hk_.1), (Kd.freshB (blk_ext BK14055.out) k_ hk_.1)⟩)) (below_size (below_extB HB.out)))
                      have HO14044 := n7_
                      have HO14047 := n8_
                      have HO14050 := n9_
                      have HO14054 := n10_
                      replace HO_0 := tdN3 HO_0 hb (Kd.R_base ho0) (Kd.R_base ho1) (Kd.N_base ho3)
                      replace HO_1 := tdN3 HO_1 hb (Kd.R_base ho0) (Kd.R_base ho1) (Kd.N_base ho3)
                      replace HO_14008000 := tdR2 HO_14008000 hb (Kd.R_base ho0) (Kd.R_base ho1)
                      replace HO_14008001 := tdR2 HO_14008001 hb (Kd.R_base ho0) (Kd.R_base ho1)
                      replace HO14034 := tdN3 HO14034 hb (Kd.R_base ho0) (Kd.R_base ho1) (Kd.N_base ho3)
                      replace HO14038 := tdR2 HO14038 hb (Kd.R_base ho0) (Kd.R_base ho1)
                      replace HO14041 := tdR2 HO14041 hb (Kd.R_base ho0) (Kd.R_base ho1)
                      replace BK14007 := mvB BK14007 hb
                      replace BK14055 := mvB BK14055 hb
                      replace HB := mvH HB hb
                      clear n7_ n8_ n9_ n10_
                      (try clear hb)
                      (try clear hb2)
                      (try clear hk)
                      (try clear hi)
                      (try clear ho0)
                      (try clear ho1)
                      (try clear ho2)
                      (try clear ho3)
                      refine hK.out _ _ ⟨(blk_cell BK14007.out 0).trans rfl, (blk_cell BK14007.out 1).trans rfl⟩ (fun hHeld => ?_)
                      clear hK K
                      refine norm_ (a' := ?_) ?_ ?_
                      rotate_left
                      · show Act.put _ (some 76) _ = _
                        simp only [Act.put, List.setIfInBounds_toArray, List.set_cons_zero, List.set_cons_succ, i64_w, i32_w]
                        rfl
                      refine pure_ (i := 5) (N := some 71) (v := ?_) (a' := ?_) #[true, true, true, true, true, true, false, false, false, false, true, false, false, false, false] rfl rfl (any_of HT_.out (by kernel_rfl)) (fun _ _ _ h => h) (Or.inl ⟨by rfl, ?_⟩) ?_ ?_
                      rotate_left
                      · intro w'
                        go_simp
                        with_reducible rfl
                      rotate_left
                      · simp only [Act.put, List.setIfInBounds_toArray, List.set_cons_zero, List.set_cons_succ, i64_w, i32_w]
                        rfl
                      refine pure_ (i := 6) (N := some 77) (v := ?_) (a' := ?_) #[true, true, true, true, true, true, true, false, false, false, true, false, false, false, false] rfl rfl (any_of HT_.out (by kernel_rfl)) (fun _ _ _ h => h) (Or.inl ⟨by rfl, ?_⟩) ?_ ?_
                      rotate_left
                      · intro w'
                        go_simp
                        with_reducible rfl
                      rotate_left
                      · simp only [Act.put, List.setIfInBounds_toArray, List.set_cons_zero, List.set_cons_succ, i64_w, i32_w]
                        rfl
                      refine pure_ (i := 7) (N := some 78) (v := ?_) (a' := ?_) #[true, true, true, true, true, true, true, true, false, false, true, false, false, false, false] rfl rfl (any_of HT_.out (by kernel_rfl)) (fun _ _ _ h => h) (Or.inl ⟨by rfl, ?_⟩) ?_ ?_
                      rotate_left
                      · intro w'
                        go_simp
                        with_reducible rfl
                      rotate_left
                      · simp only [Act.put, List.setIfInBounds_toArray, List.set_cons_zero, List.set_cons_succ, i64_w, i32_w]
                        rfl
                      refine pure_ (i := 8) (N := some 79) (v := ?_) (a' := ?_) #[true, true, true, true, true, true, true, true, true, false, true, false, false, false, false] rfl rfl (any_of HT_.out (by kernel_rfl)) (fun _ _ _ h => h) (Or.inl ⟨by rfl, ?_⟩) ?_ ?_
                      rotate_left
                      · intro w'
                        go_simp
                        with_reducible rfl
                      rotate_left
                      · simp only [Act.put, List.setIfInBounds_toArray, List.set_cons_zero, List.set_cons_succ, i64_w, i32_w]
                        rfl
                      refine pure_ (i := 9) (N := some 80) (v := ?_) (a' := ?_) #[true, true, true, true, true, true, true, true, true, true, true, false, false, false, false] rfl rfl (any_of HT_.out (by kernel_rfl)) (fun _ _ _ h => h) (Or.inl ⟨by rfl, ?_⟩) ?_ ?_
                      rotate_left
                      · intro w'
                        go_simp
                        with_reducible rfl
                      rotate_left
                      · simp only [Act.put, List.setIfInBounds_toArray, List.set_cons_zero, List.set_cons_succ, i64_w, i32_w]
                        rfl
                      exact norm_ (by simp only [putAll, Act.put, List.setIfInBounds_toArray, List.set_cons_zero, List.set_cons_succ]) (hCont (.slice Ao62 t14036.length co62, .slice Ao63 t14039.length co63, v14043, v14046, v14049, v14053, gb14055) _ ⟨hHeld, (Kd.N_ext (Kd.N_mono HO14034.out (fun _ hk => ⟨hk.1.1.1.1.2, ⟨hk.1.1.1.2, ⟨hk.1.1.2, ⟨hk.1.2, ⟨hk.2, ⟨hk.1.1.1.1.1.1.1, ⟨hk.1.1.1.1.1.1.2.1, ⟨hk.1.1.1.1.1.1.2.2, hk.1.1.1.1.1.2⟩⟩⟩⟩⟩⟩⟩⟩))), (Kd.R_ext (Kd.R_mono HO14038.out (fun _ hk => ⟨hk.1.1.1.1, ⟨hk.1.2, ⟨hk.2, ⟨hk.1.1.1.2, hk.1.1.2⟩⟩⟩⟩))), (Kd.R_ext (Kd.R_mono HO14041.out (fun _ hk => ⟨hk.1.1.1.1, ⟨hk.1.2, ⟨hk.2, ⟨hk.1.1.1.2, hk.1.1.2⟩⟩⟩⟩))), (Kd.R_ext (Kd.R_mono HO14044.out (fun _ hk => ⟨hk.1.2, ⟨hk.2, ⟨hk.1.1.1.1, ⟨hk.1.1.1.2, hk.1.1.2⟩⟩⟩⟩))), (Kd.R_ext (Kd.R_mono HO14047.out (fun _ hk => ⟨hk.1.2, ⟨hk.2, ⟨hk.1.1.1.1, ⟨hk.1.1.1.2, hk.1.1.2⟩⟩⟩⟩))), (Kd.V_ext (Kd.V_mono HO14050.out (fun _ hk => ⟨hk.2.2.2.2.2.2.2.1, ⟨hk.2.2.2.2.2.2.2.2.1, ⟨hk.2.2.2.2.2.2.2.2.2.1, ⟨hk.1, ⟨hk.2.1, ⟨hk.2.2.1, ⟨hk.2.2.2.1, ⟨hk.2.2.2.2.1, ⟨hk.2.2.2.2.2.1, ⟨hk.2.2.2.2.2.2.1, ⟨hk.2.2.2.2.2.2.2.2.2.2.1, hk.2.2.2.2.2.2.2.2.2.2.2⟩⟩⟩⟩⟩⟩⟩⟩⟩⟩⟩))), (Kd.N_ext (Kd.N_mono HO14054.out (fun _ hk => ⟨hk.2.2.2.2.2.2.1, ⟨hk.2.2.2.2.2.2.2.1, ⟨hk.2.2.2.2.2.2.2.2.1, ⟨hk.1, ⟨hk.2.1, ⟨hk.2.2.1, ⟨hk.2.2.2.1, ⟨hk.2.2.2.2.1, ⟨hk.2.2.2.2.2.1, ⟨hk.2.2.2.2.2.2.2.2.2.1, hk.2.2.2.2.2.2.2.2.2.2⟩⟩⟩⟩⟩⟩⟩⟩⟩⟩))), (Kd.N_ext (Kd.N_mono HO_0.out (fun _ hk => ⟨hk.1.1.1.1.1.1.2, ⟨hk.1.1.1.1.2, ⟨hk.1.1.1.2, ⟨hk.1.1.2, ⟨hk.1.2, ⟨hk.2, ⟨hk.1.1.1.1.1.1.1.1, ⟨hk.1.1.1.1.1.1.1.2.1, ⟨hk.1.1.1.1.1.1.1.2.2.1, ⟨hk.1.1.1.1.1.1.1.2.2.2, hk.1.1.1.1.1.2⟩⟩⟩⟩⟩⟩⟩⟩⟩⟩))), (Kd.N_ext (Kd.N_mono HO_1.out (fun _ hk => ⟨hk.1.1.1.1.1.1.2, ⟨hk.1.1.1.1.2, ⟨hk.1.1.1.2, ⟨hk.1.1.2, ⟨hk.1.2, ⟨hk.2, ⟨hk.1.1.1.1.1.1.1.1, ⟨hk.1.1.1.1.1.1.1.2.1, ⟨hk.1.1.1.1.1.1.1.2.2.1, ⟨hk.1.1.1.1.1.1.1.2.2.2, hk.1.1.1.1.1.2⟩⟩⟩⟩⟩⟩⟩⟩⟩⟩))), (Kd.R_ext (Kd.R_mono HO_14008000.out (fun _ hk => ⟨hk.1.1.1.2, ⟨hk.1.1.2, ⟨hk.1.2, ⟨hk.2, hk.1.1.1.1⟩⟩⟩⟩))), (Kd.R_ext (Kd.R_mono HO_14008001.out (fun _ hk => ⟨hk.1.1.1.2, ⟨hk.1.1.2, ⟨hk.1.2, ⟨hk.2, hk.1.1.1.1⟩⟩⟩⟩))), (blk_ext BK14007.out), (blk_ext BK14055.out), GW14055.out, GE14055.out, NB14007_14055.out, NB14055_14007.out, (below_extB HB.out)⟩)
                  · skip
                    refine box_step ?hg (N := 15) ?hd (cs := #[.slice none 0 0, .slice none 0 0]) (t := 24) ?hr ?_; (case hd => rfl); (case hg => rfl); (case hr => first | (go_simp; done) | (go_simp; rfl))
                    intro gb14055 hg w60 hbox hb
                    have n7_ := Aside0.mk (hbox)
                    have n8_ := Aside0.mk ((by rw [hg]; exact (below_size (below_extB HB.out)) : w.heap.size ≤ gb14055))
                    have n9_ := Aside0.mk ((by rw [hg]; exact (below_size (below_extB HB.out)) : w.heap.size ≤ gb14055))
                    have n10_ := Aside0.mk ((by rw [hg]; exact Nat.ne_of_lt (blk_lt (blk_ext BK14007.out)) : gb14007 ≠ gb14055))
                    have n11_ := Aside0.mk ((by rw [hg]; exact Nat.ne_of_gt (blk_lt (blk_ext BK14007.out)) : gb14055 ≠ gb14007))
                    have BK14055 := n7_
                    have GW14055 := n8_
                    have GE14055 := n9_; have GI14055 := GE_.mk GE14055.out
                    have NB14007_14055 := n10_; have NI14007_14055 := NE_.mk NB14007_14055.out
                    have NB14055_14007 := n11_; have NI14055_14007 := NE_.mk NB14055_14007.out
                    replace HO_0 := awN HO_0 hb gb14055 hg
                    replace HO_1 := awN HO_1 hb gb14055 hg
                    replace HO_14008000 := mvR HO_14008000 hb
                    replace HO_14008001 := mvR HO_14008001 hb
                    replace HO14034 := awN HO14034 hb gb14055 hg
                    replace BK14007 := mvB BK14007 hb
                    replace HB := mvH HB hb
                    clear n7_ n8_ n9_ n10_ n11_
                    clear hb hbox hg
                    refine hK.out _ _ ⟨(blk_cell BK14007.out 0).trans rfl, (blk_cell BK14007.out 1).trans rfl⟩ (fun hHeld => ?_)
                    clear hK K
                    refine norm_ (a' := ?_) ?_ ?_
                    rotate_left
                    · show Act.put _ (some 15) _ = _
                      simp only [Act.put, List.setIfInBounds_toArray, List.set_cons_zero, List.set_cons_succ, i64_w, i32_w]
                      rfl
                    refine one_ (i := 2) (N := some 74) #[true, true, true, false, false, false, false, false, false, false, true, false, false, false, false] rfl rfl (one_of HT_.out (by kernel_rfl)) (by decide) (fun K hK => ?_)
                    refine goes_ Try.func27 (by kernel_rfl) rfl #[.int .i64 a2, .int .i64 5000] (by rfl) rfl rfl (by (try simp only [List.map_toArray, List.map_cons, List.map_nil]); first | done | rfl | (simp only [List.length_drop, List.length_take]; rfl)) ?_
                    with_reducible refine (customsmade_Within.calls a2 5000 t14035 _ A48.out).mono ?_
                    rintro e w' ⟨rfl, ⟨nd, rfl⟩⟩
                    refine ⟨_, rfl, ?_⟩
                    refine hK.out _ _ ⟨(blk_cell BK14007.out 0).trans rfl, (blk_cell BK14007.out 1).trans rfl⟩ (fun hHeld => ?_)
                    clear hK K
                    refine norm_ (a' := ?_) ?_ ?_
                    rotate_left
                    · show Act.put _ (some 74) _ = _
                      simp only [Act.put, List.setIfInBounds_toArray, List.set_cons_zero, List.set_cons_succ, i64_w, i32_w]
                      rfl
                    refine one_ (i := 3) (N := some 75) #[true, true, true, true, false, false, false, false, false, false, true, false, false, false, false] rfl rfl (one_of HT_.out (by kernel_rfl)) (by decide) (fun K hK => ?_)
                    refine goes_ Try.func25 (by kernel_rfl) rfl #[.agg #[.slice Ao57 x14008000_2.length co57, .slice Ao58 x14008001_2.length co58], .int .i64 t14035] (by rfl) rfl rfl (by (try simp only [List.map_toArray, List.map_cons, List.map_nil]); first | done | rfl | (simp only [List.length_drop, List.length_take]; rfl)) ?_
                    with_reducible refine (disk_Crash.calls _ _ x14008000_2 _ _ x14008001_2 t14035 t14036 t14039 _ ?side1 ?side2 ?side3 ?side4 A49.out).mono ?_
                    (case side1 => exact Kd.C_ext (Kd.R_reads' HO_14008000.out).2.2)
                    (case side2 => exact (Kd.R_reads' HO_14008000.out).2.1)
                    (case side3 => exact Kd.C_ext (Kd.R_reads' HO_14008001.out).2.2)
                    (case side4 => exact (Kd.R_reads' HO_14008001.out).2.1)
                    rintro e w61 ⟨v14037, v14040, rfl, ho0, ho1, hb⟩
                    refine ⟨_, rfl, ?_⟩
                    have n5_ := Aside0.mk (Kd.R_lower (Kd.R_new' (Kd.R_new' ho0 (Kd.R_lt (Kd.R_ext HO_14008000.out))) (Kd.R_lt (Kd.R_ext HO_14008001.out))) (below_size (below_extB HB.out)))
                    have n6_ := Aside0.mk (Kd.R_lower (Kd.R_new' (Kd.R_new' ho1 (Kd.R_lt (Kd.R_ext HO_14008000.out))) (Kd.R_lt (Kd.R_ext HO_14008001.out))) (below_size (below_extB HB.out)))
                    have HO14038 := n5_
                    have HO14041 := n6_
                    replace HO_0 := tdN2 HO_0 hb (Kd.R_base ho0) (Kd.R_base ho1)
                    replace HO_1 := tdN2 HO_1 hb (Kd.R_base ho0) (Kd.R_base ho1)
                    replace HO_14008000 := tdR2 HO_14008000 hb (Kd.R_base ho0) (Kd.R_base ho1)
                    replace HO_14008001 := tdR2 HO_14008001 hb (Kd.R_base ho0) (Kd.R_base ho1)
                    replace HO14034 := tdN2 HO14034 hb (Kd.R_base ho0) (Kd.R_base ho1)
                    replace BK14007 := mvB BK14007 hb
                    replace BK14055 := mvB BK14055 hb
                    replace HB := mvH HB hb
                    clear n5_ n6_
                    (try clear hb)
                    (try clear hb2)
                    (try clear hk)
                    (try clear hi)
                    (try clear ho0)
                    (try clear ho1)
                    obtain ⟨Ao62, co62, eo62⟩ := Kd.R_slice HO14038.out
                    (first | subst eo62 | (injection eo62 with f1_ f2_ f3_; have f4_ := f1_.symm; have f5_ := f3_.symm; clear f1_ f2_ f3_; subst f4_; subst f5_))
                    obtain ⟨Ao63, co63, eo63⟩ := Kd.R_slice HO14041.out
                    (first | subst eo63 | (injection eo63 with f1_ f2_ f3_; have f4_ := f1_.symm; have f5_ := f3_.symm; clear f1_ f2_ f3_; subst f4_; subst f5_))
                    refine hK.out _ _ ⟨(blk_cell BK14007.out 0).trans rfl, (blk_cell BK14007.out 1).trans rfl⟩ (fun hHeld => ?_)
                    clear hK K
                    refine norm_ (a' := ?_) ?_ ?_
                    rotate_left
                    · show Act.put _ (some 75) _ = _
                      simp only [Act.put, List.setIfInBounds_toArray, List.set_cons_zero, List.set_cons_succ, i64_w, i32_w]
                      rfl
                    refine one_ (i := 4) (N := some 76) #[true, true, true, true, true, false, false, false, false, false, true, false, false, false, false] rfl rfl (one_of HT_.out (by kernel_rfl)) (by decide) (fun K hK => ?_)
                    refine goes_ Try.func61 (by kernel_rfl) rfl #[.agg #[.slice Ao62 t14036.length co62, .slice Ao63 t14039.length co63]] (by rfl) rfl rfl (by (try simp only [List.map_toArray, List.map_cons, List.map_nil]); first | done | rfl | (simp only [List.length_drop, List.length_take]; rfl)) ?_
                    with_reducible refine (journal_Open.calls k2 _ _ t14036 _ _ t14039 t14042 t14045 t14048 t14051 t14052 _ ?side1 ?side2 ?side3 ?side4 A50.out).mono ?_
                    (case side1 => exact Kd.C_ext (Kd.R_reads' HO14038.out).2.2)
                    (case side2 => exact (Kd.R_reads' HO14038.out).2.1)
                    (case side3 => exact Kd.C_ext (Kd.R_reads' HO14041.out).2.2)
                    (case side4 => exact (Kd.R_reads' HO14041.out).2.1)
                    rintro e w64 ⟨v14043, v14046, v14049, v14053, rfl, ho0, ho1, ho2, ho3, hb⟩
                    refine ⟨_, rfl, ?_⟩
                    have n7_ := Aside0.mk (Kd.R_lower (Kd.R_new' (Kd.R_new' (Kd.R_new' (Kd.R_new' (Kd.R_mono (ok' := fun k_ => some k_ ≠ (v14046 : Value).ownBlock) ho0 (fun _ hk_ => hk_.2)) (Kd.R_lt (Kd.R_ext HO_14008000.out))) (Kd.R_lt (Kd.R_ext HO_14008001.out))) (Kd.R_lt (Kd.R_ext HO14038.out))) (Kd.R_lt (Kd.R_ext HO14041.out))) (below_size (below_extB HB.out)))
                    have n8_ := Aside0.mk (Kd.R_lower (Kd.R_new' (Kd.R_new' (Kd.R_new' (Kd.R_new' (Kd.R_mono (ok' := fun k_ => some k_ ≠ (v14043 : Value).ownBlock) ho1 (fun _ hk_ => hk_.2)) (Kd.R_lt (Kd.R_ext HO_14008000.out))) (Kd.R_lt (Kd.R_ext HO_14008001.out))) (Kd.R_lt (Kd.R_ext HO14038.out))) (Kd.R_lt (Kd.R_ext HO14041.out))) (below_size (below_extB HB.out)))
                    have n9_ := Aside0.mk (Kd.V_lower (Kd.V_mono (ok' := fun k_ => some k_ ≠ (v14043 : Value).ownBlock ∧ some k_ ≠ (v14046 : Value).ownBlock ∧ some k_ ≠ (v14053 : Value).ownBlock ∧ some k_ ≠ (.slice Ao27 t14001.length co27 : Value).ownBlock ∧ some k_ ≠ (.slice Ao52 t14004.length co52 : Value).ownBlock ∧ some k_ ≠ (.slice Ao57 x14008000_2.length co57 : Value).ownBlock ∧ some k_ ≠ (.slice Ao58 x14008001_2.length co58 : Value).ownBlock ∧ some k_ ≠ (v14033 : Value).ownBlock ∧ some k_ ≠ (.slice Ao62 t14036.length co62 : Value).ownBlock ∧ some k_ ≠ (.slice Ao63 t14039.length co63 : Value).ownBlock ∧ k_ ≠ gb14007 ∧ k_ ≠ gb14055) ho2 (fun k_ hk_ => ⟨hk_.2.1, hk_.2.2.1, hk_.2.2.2, (Kd.fresh' (Kd.N_lt (Kd.N_ext HO_0.out)) k_ hk_.1), (Kd.fresh' (Kd.N_lt (Kd.N_ext HO_1.out)) k_ hk_.1), (Kd.fresh' (Kd.R_lt (Kd.R_ext HO_14008000.out)) k_ hk_.1), (Kd.fresh' (Kd.R_lt (Kd.R_ext HO_14008001.out)) k_ hk_.1), (Kd.fresh' (Kd.N_lt (Kd.N_ext HO14034.out)) k_ hk_.1), (Kd.fresh' (Kd.R_lt (Kd.R_ext HO14038.out)) k_ hk_.1), (Kd.fresh' (Kd.R_lt (Kd.R_ext HO14041.out)) k_ hk_.1), (Kd.freshB (blk_ext BK14007.out) k_ hk_.1), (Kd.freshB (blk_ext BK14055.out) k_ hk_.1)⟩)) (below_size (below_extB HB.out)))
                    have n10_ := Aside0.mk (Kd.N_lower (Kd.N_mono (ok' := fun k_ => some k_ ≠ (v14043 : Value).ownBlock ∧ some k_ ≠ (v14046 : Value).ownBlock ∧ some k_ ≠ (.slice Ao27 t14001.length co27 : Value).ownBlock ∧ some k_ ≠ (.slice Ao52 t14004.length co52 : Value).ownBlock ∧ some k_ ≠ (.slice Ao57 x14008000_2.length co57 : Value).ownBlock ∧ some k_ ≠ (.slice Ao58 x14008001_2.length co58 : Value).ownBlock ∧ some k_ ≠ (v14033 : Value).ownBlock ∧ some k_ ≠ (.slice Ao62 t14036.length co62 : Value).ownBlock ∧ some k_ ≠ (.slice Ao63 t14039.length co63 : Value).ownBlock ∧ k_ ≠ gb14007 ∧ k_ ≠ gb14055) ho3 (fun k_ hk_ => ⟨hk_.2.1, hk_.2.2, (Kd.fresh' (Kd.N_lt (Kd.N_ext HO_0.out)) k_ hk_.1), (Kd.fresh' (Kd.N_lt (Kd.N_ext HO_1.out)) k_ hk_.1), (Kd.fresh' (Kd.R_lt (Kd.R_ext HO_14008000.out)) k_ hk_.1), (Kd.fresh' (Kd.R_lt (Kd.R_ext HO_14008001.out)) k_ hk_.1), (Kd.fresh' (Kd.N_lt (Kd.N_ext HO14034.out)) k_ hk_.1), (Kd.fresh' (Kd.R_lt (Kd.R_ext HO14038.out)) k_ hk_.1), (Kd.fresh' (Kd.R_lt (Kd.R_ext HO14041.out)) k_ hk_.1), (Kd.freshB (blk_ext BK14007.out) k_ hk_.1), (Kd.freshB (blk_ext BK14055.out) k_ hk_.1)⟩)) (below_size (below_extB HB.out)))
                    have HO14044 := n7_
                    have HO14047 := n8_
                    have HO14050 := n9_
                    have HO14054 := n10_
                    replace HO_0 := tdN3 HO_0 hb (Kd.R_base ho0) (Kd.R_base ho1) (Kd.N_base ho3)
                    replace HO_1 := tdN3 HO_1 hb (Kd.R_base ho0) (Kd.R_base ho1) (Kd.N_base ho3)
                    replace HO_14008000 := tdR2 HO_14008000 hb (Kd.R_base ho0) (Kd.R_base ho1)
                    replace HO_14008001 := tdR2 HO_14008001 hb (Kd.R_base ho0) (Kd.R_base ho1)
                    replace HO14034 := tdN3 HO14034 hb (Kd.R_base ho0) (Kd.R_base ho1) (Kd.N_base ho3)
                    replace HO14038 := tdR2 HO14038 hb (Kd.R_base ho0) (Kd.R_base ho1)
                    replace HO14041 := tdR2 HO14041 hb (Kd.R_base ho0) (Kd.R_base ho1)
                    replace BK14007 := mvB BK14007 hb
                    replace BK14055 := mvB BK14055 hb
                    replace HB := mvH HB hb
                    clear n7_ n8_ n9_ n10_
                    (try clear hb)
                    (try clear hb2)
                    (try clear hk)
                    (try clear hi)
                    (try clear ho0)
                    (try clear ho1)
                    (try clear ho2)
                    (try clear ho3)
                    refine hK.out _ _ ⟨(blk_cell BK14007.out 0).trans rfl, (blk_cell BK14007.out 1).trans rfl⟩ (fun hHeld => ?_)
                    clear hK K
                    refine norm_ (a' := ?_) ?_ ?_
                    rotate_left
                    · show Act.put _ (some 76) _ = _
                      simp only [Act.put, List.setIfInBounds_toArray, List.set_cons_zero, List.set_cons_succ, i64_w, i32_w]
                      rfl
                    refine pure_ (i := 5) (N := some 71) (v := ?_) (a' := ?_) #[true, true, true, true, true, true, false, false, false, false, true, false, false, false, false] rfl rfl (any_of HT_.out (by kernel_rfl)) (fun _ _ _ h => h) (Or.inl ⟨by rfl, ?_⟩) ?_ ?_
                    rotate_left
                    · intro w'
                      go_simp
                      with_reducible rfl
                    rotate_left
                    · simp only [Act.put, List.setIfInBounds_toArray, List.set_cons_zero, List.set_cons_succ, i64_w, i32_w]
                      rfl
                    refine pure_ (i := 6) (N := some 77) (v := ?_) (a' := ?_) #[true, true, true, true, true, true, true, false, false, false, true, false, false, false, false] rfl rfl (any_of HT_.out (by kernel_rfl)) (fun _ _ _ h => h) (Or.inl ⟨by rfl, ?_⟩) ?_ ?_
                    rotate_left
                    · intro w'
                      go_simp
                      with_reducible rfl
                    rotate_left
                    · simp only [Act.put, List.setIfInBounds_toArray, List.set_cons_zero, List.set_cons_succ, i64_w, i32_w]
                      rfl
                    refine pure_ (i := 7) (N := some 78) (v := ?_) (a' := ?_) #[true, true, true, true, true, true, true, true, false, false, true, false, false, false, false] rfl rfl (any_of HT_.out (by kernel_rfl)) (fun _ _ _ h => h) (Or.inl ⟨by rfl, ?_⟩) ?_ ?_
                    rotate_left
                    · intro w'
                      go_simp
                      with_reducible rfl
                    rotate_left
                    · simp only [Act.put, List.setIfInBounds_toArray, List.set_cons_zero, List.set_cons_succ, i64_w, i32_w]
                      rfl
                    refine pure_ (i := 8) (N := some 79) (v := ?_) (a' := ?_) #[true, true, true, true, true, true, true, true, true, false, true, false, false, false, false] rfl rfl (any_of HT_.out (by kernel_rfl)) (fun _ _ _ h => h) (Or.inl ⟨by rfl, ?_⟩) ?_ ?_
                    rotate_left
                    · intro w'
                      go_simp
                      with_reducible rfl
                    rotate_left
                    · simp only [Act.put, List.setIfInBounds_toArray, List.set_cons_zero, List.set_cons_succ, i64_w, i32_w]
                      rfl
                    refine pure_ (i := 9) (N := some 80) (v := ?_) (a' := ?_) #[true, true, true, true, true, true, true, true, true, true, true, false, false, false, false] rfl rfl (any_of HT_.out (by kernel_rfl)) (fun _ _ _ h => h) (Or.inl ⟨by rfl, ?_⟩) ?_ ?_
                    rotate_left
                    · intro w'
                      go_simp
                      with_reducible rfl
                    rotate_left
                    · simp only [Act.put, List.setIfInBounds_toArray, List.set_cons_zero, List.set_cons_succ, i64_w, i32_w]
                      rfl
                    exact norm_ (by simp only [putAll, Act.put, List.setIfInBounds_toArray, List.set_cons_zero, List.set_cons_succ]) (hCont (.slice Ao62 t14036.length co62, .slice Ao63 t14039.length co63, v14043, v14046, v14049, v14053, gb14055) _ ⟨hHeld, (Kd.N_ext (Kd.N_mono HO14034.out (fun _ hk => ⟨hk.1.1.1.1.2, ⟨hk.1.1.1.2, ⟨hk.1.1.2, ⟨hk.1.2, ⟨hk.2, ⟨hk.1.1.1.1.1.1.1, ⟨hk.1.1.1.1.1.1.2.1, ⟨hk.1.1.1.1.1.1.2.2, hk.1.1.1.1.1.2⟩⟩⟩⟩⟩⟩⟩⟩))), (Kd.R_ext (Kd.R_mono HO14038.out (fun _ hk => ⟨hk.1.1.1.1, ⟨hk.1.2, ⟨hk.2, ⟨hk.1.1.1.2, hk.1.1.2⟩⟩⟩⟩))), (Kd.R_ext (Kd.R_mono HO14041.out (fun _ hk => ⟨hk.1.1.1.1, ⟨hk.1.2, ⟨hk.2, ⟨hk.1.1.1.2, hk.1.1.2⟩⟩⟩⟩))), (Kd.R_ext (Kd.R_mono HO14044.out (fun _ hk => ⟨hk.1.2, ⟨hk.2, ⟨hk.1.1.1.1, ⟨hk.1.1.1.2, hk.1.1.2⟩⟩⟩⟩))), (Kd.R_ext (Kd.R_mono HO14047.out (fun _ hk => ⟨hk.1.2, ⟨hk.2, ⟨hk.1.1.1.1, ⟨hk.1.1.1.2, hk.1.1.2⟩⟩⟩⟩))), (Kd.V_ext (Kd.V_mono HO14050.out (fun _ hk => ⟨hk.2.2.2.2.2.2.2.1, ⟨hk.2.2.2.2.2.2.2.2.1, ⟨hk.2.2.2.2.2.2.2.2.2.1, ⟨hk.1, ⟨hk.2.1, ⟨hk.2.2.1, ⟨hk.2.2.2.1, ⟨hk.2.2.2.2.1, ⟨hk.2.2.2.2.2.1, ⟨hk.2.2.2.2.2.2.1, ⟨hk.2.2.2.2.2.2.2.2.2.2.1, hk.2.2.2.2.2.2.2.2.2.2.2⟩⟩⟩⟩⟩⟩⟩⟩⟩⟩⟩))), (Kd.N_ext (Kd.N_mono HO14054.out (fun _ hk => ⟨hk.2.2.2.2.2.2.1, ⟨hk.2.2.2.2.2.2.2.1, ⟨hk.2.2.2.2.2.2.2.2.1, ⟨hk.1, ⟨hk.2.1, ⟨hk.2.2.1, ⟨hk.2.2.2.1, ⟨hk.2.2.2.2.1, ⟨hk.2.2.2.2.2.1, ⟨hk.2.2.2.2.2.2.2.2.2.1, hk.2.2.2.2.2.2.2.2.2.2⟩⟩⟩⟩⟩⟩⟩⟩⟩⟩))), (Kd.N_ext (Kd.N_mono HO_0.out (fun _ hk => ⟨hk.1.1.1.1.1.1.2, ⟨hk.1.1.1.1.2, ⟨hk.1.1.1.2, ⟨hk.1.1.2, ⟨hk.1.2, ⟨hk.2, ⟨hk.1.1.1.1.1.1.1.1, ⟨hk.1.1.1.1.1.1.1.2.1, ⟨hk.1.1.1.1.1.1.1.2.2.1, ⟨hk.1.1.1.1.1.1.1.2.2.2, hk.1.1.1.1.1.2⟩⟩⟩⟩⟩⟩⟩⟩⟩⟩))), (Kd.N_ext (Kd.N_mono HO_1.out (fun _ hk => ⟨hk.1.1.1.1.1.1.2, ⟨hk.1.1.1.1.2, ⟨hk.1.1.1.2, ⟨hk.1.1.2, ⟨hk.1.2, ⟨hk.2, ⟨hk.1.1.1.1.1.1.1.1, ⟨hk.1.1.1.1.1.1.1.2.1, ⟨hk.1.1.1.1.1.1.1.2.2.1, ⟨hk.1.1.1.1.1.1.1.2.2.2, hk.1.1.1.1.1.2⟩⟩⟩⟩⟩⟩⟩⟩⟩⟩))), (Kd.R_ext (Kd.R_mono HO_14008000.out (fun _ hk => ⟨hk.1.1.1.2, ⟨hk.1.1.2, ⟨hk.1.2, ⟨hk.2, hk.1.1.1.1⟩⟩⟩⟩))), (Kd.R_ext (Kd.R_mono HO_14008001.out (fun _ hk => ⟨hk.1.1.1.2, ⟨hk.1.1.2, ⟨hk.1.2, ⟨hk.2, hk.1.1.1.1⟩⟩⟩⟩))), (blk_ext BK14007.out), (blk_ext BK14055.out), GW14055.out, GE14055.out, NB14007_14055.out, NB14055_14007.out, (below_extB HB.out)⟩)
                rintro ⟨v14037, v14040, v14043, v14046, v14049, v14053, gb14055⟩ w65 ⟨hS_, h0_, h1_, h2_, h3_, h4_, h5_, h6_, h7_, h8_, h9_, h10_, h11_, h12_, h13_, h14_, h15_, h16_, h17_⟩
                have n0_ : Aside0 (Kd.N (Kd.slice 5 (Kd.int .u8)) 22 w65 w.heap.size (fun k_ => some k_ ≠ (v14037 : Value).ownBlock ∧ some k_ ≠ (v14040 : Value).ownBlock ∧ some k_ ≠ (v14043 : Value).ownBlock ∧ some k_ ≠ (v14046 : Value).ownBlock ∧ some k_ ≠ (v14053 : Value).ownBlock ∧ some k_ ≠ (.slice Ao57 x14008000_2.length co57 : Value).ownBlock ∧ some k_ ≠ (.slice Ao58 x14008001_2.length co58 : Value).ownBlock ∧ k_ ≠ gb14007 ∧ k_ ≠ gb14055) v14033 y14032) := ⟨h0_⟩
                have n1_ : Aside0 (Kd.R (Kd.int .u8) 5 w65 w.heap.size (fun k_ => some k_ ≠ (v14040 : Value).ownBlock ∧ some k_ ≠ (v14043 : Value).ownBlock ∧ some k_ ≠ (v14046 : Value).ownBlock ∧ some k_ ≠ (.slice Ao57 x14008000_2.length co57 : Value).ownBlock ∧ some k_ ≠ (.slice Ao58 x14008001_2.length co58 : Value).ownBlock) v14037 t14036) := ⟨h1_⟩
                have n2_ : Aside0 (Kd.R (Kd.int .u8) 5 w65 w.heap.size (fun k_ => some k_ ≠ (v14037 : Value).ownBlock ∧ some k_ ≠ (v14043 : Value).ownBlock ∧ some k_ ≠ (v14046 : Value).ownBlock ∧ some k_ ≠ (.slice Ao57 x14008000_2.length co57 : Value).ownBlock ∧ some k_ ≠ (.slice Ao58 x14008001_2.length co58 : Value).ownBlock) v14040 t14039) := ⟨h2_⟩
                have n3_ : Aside0 (Kd.R (Kd.int .u8) 5 w65 w.heap.size (fun k_ => some k_ ≠ (v14037 : Value).ownBlock ∧ some k_ ≠ (v14040 : Value).ownBlock ∧ some k_ ≠ (v14046 : Value).ownBlock ∧ some k_ ≠ (.slice Ao57 x14008000_2.length co57 : Value).ownBlock ∧ some k_ ≠ (.slice Ao58 x14008001_2.length co58 : Value).ownBlock) v14043 t14042) := ⟨h3_⟩
                have n4_ : Aside0 (Kd.R (Kd.int .u8) 5 w65 w.heap.size (fun k_ => some k_ ≠ (v14037 : Value).ownBlock ∧ some k_ ≠ (v14040 : Value).ownBlock ∧ some k_ ≠ (v14043 : Value).ownBlock ∧ some k_ ≠ (.slice Ao57 x14008000_2.length co57 : Value).ownBlock ∧ some k_ ≠ (.slice Ao58 x14008001_2.length co58 : Value).ownBlock) v14046 t14045) := ⟨h4_⟩
                have n5_ : Aside0 (Kd.V (Kd.int .u8) 5 w65 w.heap.size (fun k_ => some k_ ≠ (v14033 : Value).ownBlock ∧ some k_ ≠ (v14037 : Value).ownBlock ∧ some k_ ≠ (v14040 : Value).ownBlock ∧ some k_ ≠ (v14043 : Value).ownBlock ∧ some k_ ≠ (v14046 : Value).ownBlock ∧ some k_ ≠ (v14053 : Value).ownBlock ∧ some k_ ≠ (.slice Ao27 t14001.length co27 : Value).ownBlock ∧ some k_ ≠ (.slice Ao52 t14004.length co52 : Value).ownBlock ∧ some k_ ≠ (.slice Ao57 x14008000_2.length co57 : Value).ownBlock ∧ some k_ ≠ (.slice Ao58 x14008001_2.length co58 : Value).ownBlock ∧ k_ ≠ gb14007 ∧ k_ ≠ gb14055) v14049 t14048) := ⟨h5_⟩
                have n6_ : Aside0 (Kd.N (Kd.slice 5 (Kd.int .u8)) 22 w65 w.heap.size (fun k_ => some k_ ≠ (v14033 : Value).ownBlock ∧ some k_ ≠ (v14037 : Value).ownBlock ∧ some k_ ≠ (v14040 : Value).ownBlock ∧ some k_ ≠ (v14043 : Value).ownBlock ∧ some k_ ≠ (v14046 : Value).ownBlock ∧ some k_ ≠ (.slice Ao27 t14001.length co27 : Value).ownBlock ∧ some k_ ≠ (.slice Ao52 t14004.length co52 : Value).ownBlock ∧ some k_ ≠ (.slice Ao57 x14008000_2.length co57 : Value).ownBlock ∧ some k_ ≠ (.slice Ao58 x14008001_2.length co58 : Value).ownBlock ∧ k_ ≠ gb14007 ∧ k_ ≠ gb14055) v14053 t14052) := ⟨h6_⟩
                have n7_ : Aside0 (Kd.N (Kd.slice 5 (Kd.int .u8)) 22 w65 w.heap.size (fun k_ => some k_ ≠ (v14033 : Value).ownBlock ∧ some k_ ≠ (v14037 : Value).ownBlock ∧ some k_ ≠ (v14040 : Value).ownBlock ∧ some k_ ≠ (v14043 : Value).ownBlock ∧ some k_ ≠ (v14046 : Value).ownBlock ∧ some k_ ≠ (v14053 : Value).ownBlock ∧ some k_ ≠ (.slice Ao52 t14004.length co52 : Value).ownBlock ∧ some k_ ≠ (.slice Ao57 x14008000_2.length co57 : Value).ownBlock ∧ some k_ ≠ (.slice Ao58 x14008001_2.length co58 : Value).ownBlock ∧ k_ ≠ gb14007 ∧ k_ ≠ gb14055) (.slice Ao27 t14001.length co27) t14001) := ⟨h7_⟩
                have n8_ : Aside0 (Kd.N (Kd.slice 5 (Kd.int .u8)) 22 w65 w.heap.size (fun k_ => some k_ ≠ (v14033 : Value).ownBlock ∧ some k_ ≠ (v14037 : Value).ownBlock ∧ some k_ ≠ (v14040 : Value).ownBlock ∧ some k_ ≠ (v14043 : Value).ownBlock ∧ some k_ ≠ (v14046 : Value).ownBlock ∧ some k_ ≠ (v14053 : Value).ownBlock ∧ some k_ ≠ (.slice Ao27 t14001.length co27 : Value).ownBlock ∧ some k_ ≠ (.slice Ao57 x14008000_2.length co57 : Value).ownBlock ∧ some k_ ≠ (.slice Ao58 x14008001_2.length co58 : Value).ownBlock ∧ k_ ≠ gb14007 ∧ k_ ≠ gb14055) (.slice Ao52 t14004.length co52) t14004) := ⟨h8_⟩
                have n9_ : Aside0 (Kd.R (Kd.int .u8) 5 w65 w.heap.size (fun k_ => some k_ ≠ (v14037 : Value).ownBlock ∧ some k_ ≠ (v14040 : Value).ownBlock ∧ some k_ ≠ (v14043 : Value).ownBlock ∧ some k_ ≠ (v14046 : Value).ownBlock ∧ some k_ ≠ (.slice Ao58 x14008001_2.length co58 : Value).ownBlock) (.slice Ao57 x14008000_2.length co57) x14008000_2) := ⟨h9_⟩
                have n10_ : Aside0 (Kd.R (Kd.int .u8) 5 w65 w.heap.size (fun k_ => some k_ ≠ (v14037 : Value).ownBlock ∧ some k_ ≠ (v14040 : Value).ownBlock ∧ some k_ ≠ (v14043 : Value).ownBlock ∧ some k_ ≠ (v14046 : Value).ownBlock ∧ some k_ ≠ (.slice Ao57 x14008000_2.length co57 : Value).ownBlock) (.slice Ao58 x14008001_2.length co58) x14008001_2) := ⟨h10_⟩
                have n11_ : Aside0 (w65.heap[gb14007]? = some (.cells #[.slice Ao57 x14008000_2.length co57, .slice Ao58 x14008001_2.length co58] 24 (0, 0))) := ⟨h11_⟩
                have n12_ : Aside0 (w65.heap[gb14055]? = some (.cells #[.slice none 0 0, .slice none 0 0] 24 (0, 0))) := ⟨h12_⟩
                have n13_ : Aside0 (w.heap.size ≤ gb14055) := ⟨h13_⟩
                have n14_ : Aside0 (w.heap.size ≤ gb14055) := ⟨h14_⟩
                have n15_ : Aside0 (gb14007 ≠ gb14055) := ⟨h15_⟩
                have n16_ : Aside0 (gb14055 ≠ gb14007) := ⟨h16_⟩
                have n17_ : Aside0 (Below w.heap.size w w65) := ⟨h17_⟩
                clear HO_0
                clear HO_1
                clear HO_14008000
                clear HO_14008001
                clear HO14034
                clear BK14007
                clear HB
                clear h0_ h1_ h2_ h3_ h4_ h5_ h6_ h7_ h8_ h9_ h10_ h11_ h12_ h13_ h14_ h15_ h16_ h17_
                have HO14034 := n0_
                have HO14038 := n1_
                have HO14041 := n2_
                have HO14044 := n3_
                have HO14047 := n4_
                have HO14050 := n5_
                have HO14054 := n6_
                have HO_0 := n7_
                have HO_1 := n8_
                have HO_14008000 := n9_
                have HO_14008001 := n10_
                have BK14007 := n11_
                have BK14055 := n12_
                have GW14055 := n13_
                have GE14055 := n14_; have GI14055 := GE_.mk GE14055.out
                have NB14007_14055 := n15_; have NI14007_14055 := NE_.mk NB14007_14055.out
                have NB14055_14007 := n16_; have NI14055_14007 := NE_.mk NB14055_14007.out
                have HB := n17_
                clear n0_ n1_ n2_ n3_ n4_ n5_ n6_ n7_ n8_ n9_ n10_ n11_ n12_ n13_ n14_ n15_ n16_ n17_
                have hHeld : w65.cell? ⟨gb14007, 0, none⟩ = some (.slice Ao57 x14008000_2.length co57) ∧ w65.cell? ⟨gb14007, 1, none⟩ = some (.slice Ao58 x14008001_2.length co58) := hS_
                obtain ⟨Ao66, co66, eo66⟩ := Kd.R_slice HO14044.out
                (first | subst eo66 | (injection eo66 with f1_ f2_ f3_; have f4_ := f1_.symm; have f5_ := f3_.symm; clear f1_ f2_ f3_; subst f4_; subst f5_))
                obtain ⟨Ao68, co68, eo68⟩ := Kd.R_slice HO14047.out
                (first | subst eo68 | (injection eo68 with f1_ f2_ f3_; have f4_ := f1_.symm; have f5_ := f3_.symm; clear f1_ f2_ f3_; subst f4_; subst f5_))
                refine norm_ (a' := ?_) ?_ ?_
                rotate_left
                · simp only [putAll, Act.put, List.setIfInBounds_toArray, List.set_cons_zero, List.set_cons_succ]
                  rfl
                refine one_ (i := 11) (N := none) #[true, true, true, true, true, true, true, true, true, true, true, true, false, false, false] rfl rfl (one_of HT_.out (by kernel_rfl)) (by decide) (fun K hK => ?_)
                have hs67 : w65.cell? ⟨gb14055, 0, none⟩ = some (.slice none 0 0) := (blk_cell BK14055.out 0).trans rfl
                have hfs67 := blk_frozen BK14055.out 0
                have hns67_0 := NB14007_14055.out
                have hms67_0 := NB14055_14007.out
                have hs69 : w65.cell? ⟨gb14055, 1, none⟩ = some (.slice none 0 0) := (blk_cell BK14055.out 1).trans rfl
                have hfs69 := blk_frozen BK14055.out 1
                have hns69_0 := NB14007_14055.out
                have hms69_0 := NB14055_14007.out
                refine skip_ (w1 := ?_) (by rfl) rfl ?_ ?_
                rotate_left
                · go_simp
                  rfl
                refine hK.out _ _ ⟨((cell_far (p := ⟨gb14055, _, none⟩) NB14007_14055.out _).trans (((cell_far (p := ⟨gb14055, _, none⟩) NB14007_14055.out _).trans (hHeld.1)))), ((cell_far (p := ⟨gb14055, _, none⟩) NB14007_14055.out _).trans (((cell_far (p := ⟨gb14055, _, none⟩) NB14007_14055.out _).trans (hHeld.2))))⟩ (fun hHeld => ?_)
                clear hK K
                refine pure_ (i := 12) (N := some 16) (v := ?_) (a' := ?_) #[true, true, true, true, true, true, true, true, true, true, true, true, true, false, false] rfl rfl (any_of HT_.out (by kernel_rfl)) (fun _ _ _ h => h) (Or.inl ⟨by rfl, ?_⟩) ?_ ?_
                rotate_left
                · intro w'
                  go_simp
                  with_reducible rfl
                rotate_left
                · simp only [Act.put, List.setIfInBounds_toArray, List.set_cons_zero, List.set_cons_succ, i64_w, i32_w]
                  rfl
                refine pure_ (i := 13) (N := some 17) (v := ?_) (a' := ?_) #[true, true, true, true, true, true, true, true, true, true, true, true, true, true, false] rfl rfl (any_of HT_.out (by kernel_rfl)) (fun _ _ _ h => h) (Or.inl ⟨by rfl, ?_⟩) ?_ ?_
                rotate_left
                · intro w'
                  go_simp
                  with_reducible rfl
                rotate_left
                · simp only [Act.put, List.setIfInBounds_toArray, List.set_cons_zero, List.set_cons_succ, i64_w, i32_w]
                  rfl
                refine pure_ (i := 14) (N := some 18) (v := ?_) (a' := ?_) #[true, true, true, true, true, true, true, true, true, true, true, true, true, true, true] rfl rfl (any_of HT_.out (by kernel_rfl)) (fun _ _ _ h => h) (Or.inl ⟨by rfl, ?_⟩) ?_ ?_
                rotate_left
                · intro w'
                  go_simp
                  with_reducible rfl
                rotate_left
                · simp only [Act.put, List.setIfInBounds_toArray, List.set_cons_zero, List.set_cons_succ, i64_w, i32_w]
                  rfl
                refine done_ (done_of HT_.out (by kernel_rfl)) ?_
                go_upto_region 19 with (fail)
                go_cut [104] (fun v104 wc => ∃ (kq : Nat) (x104_50 : Bool), v104 = .bool x104_50 ∧ Aside0 (customslaw34_JournalCrash.j2 kq t14052 x104_50 t14042 t14045 = some r) ∧ Aside0 (kq ≤ k2) ∧ Aside0 (Kd.N (Kd.slice 5 (Kd.int .u8)) 22 wc w.heap.size (fun k_ => some k_ ≠ ((.slice Ao66 t14042.length co66) : Value).ownBlock ∧ some k_ ≠ ((.slice Ao68 t14045.length co68) : Value).ownBlock ∧ k_ ≠ gb14055) v14053 t14052) ∧ Aside0 (Kd.R (Kd.int .u8) 5 wc w.heap.size (fun k_ => some k_ ≠ ((.slice Ao68 t14045.length co68) : Value).ownBlock) (.slice Ao66 t14042.length co66) t14042) ∧ Aside0 (Kd.R (Kd.int .u8) 5 wc w.heap.size (fun k_ => some k_ ≠ ((.slice Ao66 t14042.length co66) : Value).ownBlock) (.slice Ao68 t14045.length co68) t14045) ∧ Aside0 (wc.heap[gb14055]? = some (.cells #[(.slice Ao66 t14042.length co66), (.slice Ao68 t14045.length co68)] 24 (0, 0))) ∧ Aside0 (Below w.heap.size w wc))
                case first =>
                  have H := HC51.out
                  clear HC51
                  by_cases c70 : t14051 = true
                  · subst c70
                    have H1 : (customslaw34_JournalCrash.j2 k2 t14052 true t14042 t14045) = some r := by rw [if_pos rfl] at H; exact H
                    clear H
                    have H := H1
                    clear H1
                    have H' := Aside0.mk H
                    clear H
                    go_wp2
                    go_meet
                    case rel => exact ⟨_, (true), (by first | rfl | (simp; done) | (simp [*]; done)), H', ⟨by have := HK1.out; have := HK2.out; first | omega | exact Nat.le_refl _⟩, ⟨Kd.N_ext (Kd.N_mono (Kd.N_far (p := ⟨gb14055, 1, none⟩) (Kd.N_far (p := ⟨gb14055, 0, none⟩) (Kd.N_mono HO14054.out (fun k_ hk => (⟨hk, hk.2.2.2.2.2.2.2.2.2.2⟩ : _ ∧ k_ ≠ gb14055))) (fun _ hk => hk.2) (.slice Ao66 t14042.length co66)) (fun _ hk => hk.2) (.slice Ao68 t14045.length co68)) (fun _ hk => ⟨hk.1.2.2.2.1, ⟨hk.1.2.2.2.2.1, hk.1.2.2.2.2.2.2.2.2.2.2⟩⟩))⟩, ⟨Kd.R_ext (Kd.R_mono (Kd.R_far (p := ⟨gb14055, 1, none⟩) (Kd.R_far (p := ⟨gb14055, 0, none⟩) (Kd.R_types HO14044.out BK14055.out (by decide)) (fun _ hk => hk.2) (.slice Ao66 t14042.length co66)) (fun _ hk => hk.2) (.slice Ao68 t14045.length co68)) (fun _ hk => hk.1.2.2.1))⟩, ⟨Kd.R_ext (Kd.R_mono (Kd.R_far (p := ⟨gb14055, 1, none⟩) (Kd.R_far (p := ⟨gb14055, 0, none⟩) (Kd.R_types HO14047.out BK14055.out (by decide)) (fun _ hk => hk.2) (.slice Ao66 t14042.length co66)) (fun _ hk => hk.2) (.slice Ao68 t14045.length co68)) (fun _ hk => hk.1.2.2.1))⟩, ⟨by (with_reducible repeat (first | refine blk_drewN ?_ _ | refine blk_drew ?_ | refine blk_alloc ?_ _)); refine blk_put (cs := #[.slice Ao66 t14042.length co66, .slice none 0 0]) ?_ 1 _ rfl; (with_reducible repeat (first | refine blk_drewN ?_ _ | refine blk_drew ?_ | refine blk_alloc ?_ _)); refine blk_put (cs := #[.slice none 0 0, .slice none 0 0]) ?_ 0 _ rfl; exact blk_ext BK14055.out⟩, ⟨below_extB HB.out⟩⟩
                  · replace c70 := Bool.eq_false_iff.mpr c70
                    subst c70
                    have H1 : (if (t14052.length : Int) < (t14001.length : Int) then (customslaw34_JournalCrash.j2 k2 t14052 true t14042 t14045) else (if (t14052.length : Int) > (y14032.length : Int) then (customslaw34_JournalCrash.j2 k2 t14052 true t14042 t14045) else (if 0 ≤ (t14052.length : Int) then (if (t14052.length : Int) ≤ (y14032.length : Int) then ((customsref33_SameRecords.f k2 t14052 (y14032.take ((t14052.length : Int) : Int).toNat)).bind fun t14061 => (customslaw34_JournalCrash.j2 k2 t14052 (!t14061) t14042 t14045)) else (none)) else (none)))) = some r := by rw [if_neg (show ¬ (false = true) by decide)] at H; exact H
                    clear H
                    have H := H1
                    clear H1
                    by_cases c71 : (t14052.length : Int) < (t14001.length : Int)
                    · rw [if_pos c71] at H
                      have c71b0 : decide ((t14052.length : Int) < (t14001.length : Int)) = true := decide_eq_true c71
                      have c71b1 : decide (t14052.length < t14001.length) = true := decide_eq_true (Int.ofNat_lt.mp c71)
                      clear c71
                      (first | rw [c71b0] | (simp only [i64_w, i32_w]; rw [c71b0]) | skip)
                      have H' := Aside0.mk H
                      clear H
                      obtain ⟨Ao72, co72, eo72⟩ := Kd.N_slice HO14054.out
                      subst eo72
                      go_wp2
                      go_meet
                      case rel => exact ⟨_, (true), (by first | rfl | (simp; done) | (simp [*]; done)), H', ⟨by have := HK1.out; have := HK2.out; first | omega | exact Nat.le_refl _⟩, ⟨Kd.N_ext (Kd.N_mono (Kd.N_far (p := ⟨gb14055, 1, none⟩) (Kd.N_far (p := ⟨gb14055, 0, none⟩) (Kd.N_mono HO14054.out (fun k_ hk => (⟨hk, hk.2.2.2.2.2.2.2.2.2.2⟩ : _ ∧ k_ ≠ gb14055))) (fun _ hk => hk.2) (.slice Ao66 t14042.length co66)) (fun _ hk => hk.2) (.slice Ao68 t14045.length co68)) (fun _ hk => ⟨hk.1.2.2.2.1, ⟨hk.1.2.2.2.2.1, hk.1.2.2.2.2.2.2.2.2.2.2⟩⟩))⟩, ⟨Kd.R_ext (Kd.R_mono (Kd.R_far (p := ⟨gb14055, 1, none⟩) (Kd.R_far (p := ⟨gb14055, 0, none⟩) (Kd.R_types HO14044.out BK14055.out (by decide)) (fun _ hk => hk.2) (.slice Ao66 t14042.length co66)) (fun _ hk => hk.2) (.slice Ao68 t14045.length co68)) (fun _ hk => hk.1.2.2.1))⟩, ⟨Kd.R_ext (Kd.R_mono (Kd.R_far (p := ⟨gb14055, 1, none⟩) (Kd.R_far (p := ⟨gb14055, 0, none⟩) (Kd.R_types HO14047.out BK14055.out (by decide)) (fun _ hk => hk.2) (.slice Ao66 t14042.length co66)) (fun _ hk => hk.2) (.slice Ao68 t14045.length co68)) (fun _ hk => hk.1.2.2.1))⟩, ⟨by (with_reducible repeat (first | refine blk_drewN ?_ _ | refine blk_drew ?_ | refine blk_alloc ?_ _)); refine blk_put (cs := #[.slice Ao66 t14042.length co66, .slice none 0 0]) ?_ 1 _ rfl; (with_reducible repeat (first | refine blk_drewN ?_ _ | refine blk_drew ?_ | refine blk_alloc ?_ _)); refine blk_put (cs := #[.slice none 0 0, .slice none 0 0]) ?_ 0 _ rfl; exact blk_ext BK14055.out⟩, ⟨below_extB HB.out⟩⟩
                    · rw [if_neg c71] at H
                      have c71b0 : decide ((t14052.length : Int) < (t14001.length : Int)) = false := decide_eq_false c71
                      have c71b1 : decide (t14052.length < t14001.length) = false := decide_eq_false (fun h => c71 (Int.ofNat_lt.mpr h))
                      clear c71
                      (first | rw [c71b0] | (simp only [i64_w, i32_w]; rw [c71b0]) | skip)
                      by_cases c73 : (t14052.length : Int) > (y14032.length : Int)
                      · rw [if_pos c73] at H
                        have c73b0 : decide ((y14032.length : Int) < (t14052.length : Int)) = true := decide_eq_true c73
                        have c73b1 : decide (y14032.length < t14052.length) = true := decide_eq_true (Int.ofNat_lt.mp c73)
                        clear c73
                        have H' := Aside0.mk H
                        clear H
                        obtain ⟨Ao74, co74, eo74⟩ := Kd.N_slice HO14054.out
                        subst eo74
                        obtain ⟨Ao75, co75, eo75⟩ := Kd.N_slice HO14034.out
                        subst eo75
                        go_wp2
                        go_meet
                        case rel => exact ⟨_, (true), (by first | rfl | (simp; done) | (simp [*]; done)), H', ⟨by have := HK1.out; have := HK2.out; first | omega | exact Nat.le_refl _⟩, ⟨Kd.N_ext (Kd.N_mono (Kd.N_far (p := ⟨gb14055, 1, none⟩) (Kd.N_far (p := ⟨gb14055, 0, none⟩) (Kd.N_mono HO14054.out (fun k_ hk => (⟨hk, hk.2.2.2.2.2.2.2.2.2.2⟩ : _ ∧ k_ ≠ gb14055))) (fun _ hk => hk.2) (.slice Ao66 t14042.length co66)) (fun _ hk => hk.2) (.slice Ao68 t14045.length co68)) (fun _ hk => ⟨hk.1.2.2.2.1, ⟨hk.1.2.2.2.2.1, hk.1.2.2.2.2.2.2.2.2.2.2⟩⟩))⟩, ⟨Kd.R_ext (Kd.R_mono (Kd.R_far (p := ⟨gb14055, 1, none⟩) (Kd.R_far (p := ⟨gb14055, 0, none⟩) (Kd.R_types HO14044.out BK14055.out (by decide)) (fun _ hk => hk.2) (.slice Ao66 t14042.length co66)) (fun _ hk => hk.2) (.slice Ao68 t14045.length co68)) (fun _ hk => hk.1.2.2.1))⟩, ⟨Kd.R_ext (Kd.R_mono (Kd.R_far (p := ⟨gb14055, 1, none⟩) (Kd.R_far (p := ⟨gb14055, 0, none⟩) (Kd.R_types HO14047.out BK14055.out (by decide)) (fun _ hk => hk.2) (.slice Ao66 t14042.length co66)) (fun _ hk => hk.2) (.slice Ao68 t14045.length co68)) (fun _ hk => hk.1.2.2.1))⟩, ⟨by (with_reducible repeat (first | refine blk_drewN ?_ _ | refine blk_drew ?_ | refine blk_alloc ?_ _)); refine blk_put (cs := #[.slice Ao66 t14042.length co66, .slice none 0 0]) ?_ 1 _ rfl; (with_reducible repeat (first | refine blk_drewN ?_ _ | refine blk_drew ?_ | refine blk_alloc ?_ _)); refine blk_put (cs := #[.slice none 0 0, .slice none 0 0]) ?_ 0 _ rfl; exact blk_ext BK14055.out⟩, ⟨below_extB HB.out⟩⟩
                      · rw [if_neg c73] at H
                        have c73b0 : decide ((y14032.length : Int) < (t14052.length : Int)) = false := decide_eq_false c73
                        have c73b1 : decide (y14032.length < t14052.length) = false := decide_eq_false (fun h => c73 (Int.ofNat_lt.mpr h))
                        clear c73
                        replace H := if_some H; obtain ⟨c76, H⟩ := H
                        have c76b0 := eq_true c76
                        have c76b1 : decide (0 ≤ (t14052.length : Int)) = true := decide_eq_true c76
                        clear c76
                        replace H := if_some H; obtain ⟨c77, H⟩ := H
                        have c77b0 := eq_true c77
                        have c77b1 : decide ((t14052.length : Int) ≤ (y14032.length : Int)) = true := decide_eq_true c77
                        clear c77
                        obtain ⟨y14056, hy14056⟩ : ∃ y_ : List (List Int), y_ = (y14032.take ((t14052.length : Int) : Int).toNat) := ⟨_, rfl⟩
                        replace H : ((customsref33_SameRecords.f k2 t14052 y14056).bind fun t14061 => (customslaw34_JournalCrash.j2 k2 t14052 (!t14061) t14042 t14045)) = some r := by first | (rw [hy14056]; with_reducible exact H) | (have H2_ := (Option.bind_some _ _).symm.trans H; rw [hy14056]; with_reducible exact H2_) | (have H2_ := (Option.bind_some _ _).symm.trans H; with_reducible exact H2_) | with_reducible exact H | (rw [hy14056]; exact H) | exact H
                        have Ny14056 := Aside0.mk hy14056
                        clear hy14056
                        replace H := Option.bind_eq_some_iff.mp H
                        obtain ⟨t14061, A780, H⟩ := H
                        try dsimp only at H
                        have A78 := Aside0.mk A780
                        clear A780
                        have H' := Aside0.mk H
                        clear H
                        obtain ⟨Ao79, co79, eo79⟩ := Kd.N_slice HO14054.out
                        subst eo79
                        obtain ⟨Ao80, co80, eo80⟩ := Kd.N_slice HO14034.out
                        subst eo80
                        have n0_ : Aside0 (Kd.N (Kd.slice 5 (Kd.int .u8)) 22 ((w65.setCell ⟨gb14055, 0, none⟩ (.slice Ao66 t14042.length co66)).setCell ⟨gb14055, 1, none⟩ (.slice Ao68 t14045.length co68)) w.heap.size (fun k_ => some k_ ≠ (.slice Ao52 t14004.length co52 : Value).ownBlock ∧ some k_ ≠ (.slice Ao57 x14008000_2.length co57 : Value).ownBlock ∧ some k_ ≠ (.slice Ao58 x14008001_2.length co58 : Value).ownBlock ∧ some k_ ≠ (.slice Ao80 y14032.length co80 : Value).ownBlock ∧ some k_ ≠ (v14037 : Value).ownBlock ∧ some k_ ≠ (v14040 : Value).ownBlock ∧ some k_ ≠ (.slice Ao66 t14042.length co66 : Value).ownBlock ∧ some k_ ≠ (.slice Ao68 t14045.length co68 : Value).ownBlock ∧ some k_ ≠ (.slice Ao79 t14052.length co79 : Value).ownBlock ∧ k_ ≠ gb14007 ∧ k_ ≠ gb14055) (.slice Ao27 t14001.length co27) t14001) := ⟨Kd.N_ext (Kd.N_mono (Kd.N_far (p := ⟨gb14055, 1, none⟩) (Kd.N_far (p := ⟨gb14055, 0, none⟩) (Kd.N_mono HO_0.out (fun k_ hk => (⟨hk, hk.2.2.2.2.2.2.2.2.2.2⟩ : _ ∧ k_ ≠ gb14055))) (fun _ hk => hk.2) (.slice Ao66 t14042.length co66)) (fun _ hk => hk.2) (.slice Ao68 t14045.length co68)) (fun _ hk => ⟨hk.1.2.2.2.2.2.2.1, ⟨hk.1.2.2.2.2.2.2.2.1, ⟨hk.1.2.2.2.2.2.2.2.2.1, ⟨hk.1.1, ⟨hk.1.2.1, ⟨hk.1.2.2.1, ⟨hk.1.2.2.2.1, ⟨hk.1.2.2.2.2.1, ⟨hk.1.2.2.2.2.2.1, ⟨hk.1.2.2.2.2.2.2.2.2.2.1, hk.1.2.2.2.2.2.2.2.2.2.2⟩⟩⟩⟩⟩⟩⟩⟩⟩⟩))⟩
                        have n1_ : Aside0 (Kd.N (Kd.slice 5 (Kd.int .u8)) 22 ((w65.setCell ⟨gb14055, 0, none⟩ (.slice Ao66 t14042.length co66)).setCell ⟨gb14055, 1, none⟩ (.slice Ao68 t14045.length co68)) w.heap.size (fun k_ => some k_ ≠ (.slice Ao27 t14001.length co27 : Value).ownBlock ∧ some k_ ≠ (.slice Ao57 x14008000_2.length co57 : Value).ownBlock ∧ some k_ ≠ (.slice Ao58 x14008001_2.length co58 : Value).ownBlock ∧ some k_ ≠ (.slice Ao80 y14032.length co80 : Value).ownBlock ∧ some k_ ≠ (v14037 : Value).ownBlock ∧ some k_ ≠ (v14040 : Value).ownBlock ∧ some k_ ≠ (.slice Ao66 t14042.length co66 : Value).ownBlock ∧ some k_ ≠ (.slice Ao68 t14045.length co68 : Value).ownBlock ∧ some k_ ≠ (.slice Ao79 t14052.length co79 : Value).ownBlock ∧ k_ ≠ gb14007 ∧ k_ ≠ gb14055) (.slice Ao52 t14004.length co52) t14004) := ⟨Kd.N_ext (Kd.N_mono (Kd.N_far (p := ⟨gb14055, 1, none⟩) (Kd.N_far (p := ⟨gb14055, 0, none⟩) (Kd.N_mono HO_1.out (fun k_ hk => (⟨hk, hk.2.2.2.2.2.2.2.2.2.2⟩ : _ ∧ k_ ≠ gb14055))) (fun _ hk => hk.2) (.slice Ao66 t14042.length co66)) (fun _ hk => hk.2) (.slice Ao68 t14045.length co68)) (fun _ hk => ⟨hk.1.2.2.2.2.2.2.1, ⟨hk.1.2.2.2.2.2.2.2.1, ⟨hk.1.2.2.2.2.2.2.2.2.1, ⟨hk.1.1, ⟨hk.1.2.1, ⟨hk.1.2.2.1, ⟨hk.1.2.2.2.1, ⟨hk.1.2.2.2.2.1, ⟨hk.1.2.2.2.2.2.1, ⟨hk.1.2.2.2.2.2.2.2.2.2.1, hk.1.2.2.2.2.2.2.2.2.2.2⟩⟩⟩⟩⟩⟩⟩⟩⟩⟩))⟩
                        have n2_ : Aside0 (Kd.R (Kd.int .u8) 5 ((w65.setCell ⟨gb14055, 0, none⟩ (.slice Ao66 t14042.length co66)).setCell ⟨gb14055, 1, none⟩ (.slice Ao68 t14045.length co68)) w.heap.size (fun k_ => some k_ ≠ (.slice Ao58 x14008001_2.length co58 : Value).ownBlock ∧ some k_ ≠ (v14037 : Value).ownBlock ∧ some k_ ≠ (v14040 : Value).ownBlock ∧ some k_ ≠ (.slice Ao66 t14042.length co66 : Value).ownBlock ∧ some k_ ≠ (.slice Ao68 t14045.length co68 : Value).ownBlock) (.slice Ao57 x14008000_2.length co57) x14008000_2) := ⟨Kd.R_ext (Kd.R_mono (Kd.R_far (p := ⟨gb14055, 1, none⟩) (Kd.R_far (p := ⟨gb14055, 0, none⟩) (Kd.R_types HO_14008000.out BK14055.out (by decide)) (fun _ hk => hk.2) (.slice Ao66 t14042.length co66)) (fun _ hk => hk.2) (.slice Ao68 t14045.length co68)) (fun _ hk => ⟨hk.1.2.2.2.2, ⟨hk.1.1, ⟨hk.1.2.1, ⟨hk.1.2.2.1, hk.1.2.2.2.1⟩⟩⟩⟩))⟩
                        have n3_ : Aside0 (Kd.R (Kd.int .u8) 5 ((w65.setCell ⟨gb14055, 0, none⟩ (.slice Ao66 t14042.length co66)).setCell ⟨gb14055, 1, none⟩ (.slice Ao68 t14045.length co68)) w.heap.size (fun k_ => some k_ ≠ (.slice Ao57 x14008000_2.length co57 : Value).ownBlock ∧ some k_ ≠ (v14037 : Value).ownBlock ∧ some k_ ≠ (v14040 : Value).ownBlock ∧ some k_ ≠ (.slice Ao66 t14042.length co66 : Value).ownBlock ∧ some k_ ≠ (.slice Ao68 t14045.length co68 : Value).ownBlock) (.slice Ao58 x14008001_2.length co58) x14008001_2) := ⟨Kd.R_ext (Kd.R_mono (Kd.R_far (p := ⟨gb14055, 1, none⟩) (Kd.R_far (p := ⟨gb14055, 0, none⟩) (Kd.R_types HO_14008001.out BK14055.out (by decide)) (fun _ hk => hk.2) (.slice Ao66 t14042.length co66)) (fun _ hk => hk.2) (.slice Ao68 t14045.length co68)) (fun _ hk => ⟨hk.1.2.2.2.2, ⟨hk.1.1, ⟨hk.1.2.1, ⟨hk.1.2.2.1, hk.1.2.2.2.1⟩⟩⟩⟩))⟩
                        have n4_ : Aside0 (Kd.N (Kd.slice 5 (Kd.int .u8)) 22 ((w65.setCell ⟨gb14055, 0, none⟩ (.slice Ao66 t14042.length co66)).setCell ⟨gb14055, 1, none⟩ (.slice Ao68 t14045.length co68)) w.heap.size (fun k_ => some k_ ≠ (.slice Ao57 x14008000_2.length co57 : Value).ownBlock ∧ some k_ ≠ (.slice Ao58 x14008001_2.length co58 : Value).ownBlock ∧ some k_ ≠ (v14037 : Value).ownBlock ∧ some k_ ≠ (v14040 : Value).ownBlock ∧ some k_ ≠ (.slice Ao66 t14042.length co66 : Value).ownBlock ∧ some k_ ≠ (.slice Ao68 t14045.length co68 : Value).ownBlock ∧ some k_ ≠ (.slice Ao79 t14052.length co79 : Value).ownBlock ∧ k_ ≠ gb14007 ∧ k_ ≠ gb14055) (.slice Ao80 y14032.length co80) y14032) := ⟨Kd.N_ext (Kd.N_mono (Kd.N_far (p := ⟨gb14055, 1, none⟩) (Kd.N_far (p := ⟨gb14055, 0, none⟩) (Kd.N_mono HO14034.out (fun k_ hk => (⟨hk, hk.2.2.2.2.2.2.2.2⟩ : _ ∧ k_ ≠ gb14055))) (fun _ hk => hk.2) (.slice Ao66 t14042.length co66)) (fun _ hk => hk.2) (.slice Ao68 t14045.length co68)) (fun _ hk => ⟨hk.1.2.2.2.2.2.1, ⟨hk.1.2.2.2.2.2.2.1, ⟨hk.1.1, ⟨hk.1.2.1, ⟨hk.1.2.2.1, ⟨hk.1.2.2.2.1, ⟨hk.1.2.2.2.2.1, ⟨hk.1.2.2.2.2.2.2.2.1, hk.1.2.2.2.2.2.2.2.2⟩⟩⟩⟩⟩⟩⟩⟩))⟩
                        have n5_ : Aside0 (Kd.R (Kd.int .u8) 5 ((w65.setCell ⟨gb14055, 0, none⟩ (.slice Ao66 t14042.length co66)).setCell ⟨gb14055, 1, none⟩ (.slice Ao68 t14045.length co68)) w.heap.size (fun k_ => some k_ ≠ (.slice Ao57 x14008000_2.length co57 : Value).ownBlock ∧ some k_ ≠ (.slice Ao58 x14008001_2.length co58 : Value).ownBlock ∧ some k_ ≠ (v14040 : Value).ownBlock ∧ some k_ ≠ (.slice Ao66 t14042.length co66 : Value).ownBlock ∧ some k_ ≠ (.slice Ao68 t14045.length co68 : Value).ownBlock) v14037 t14036) := ⟨Kd.R_ext (Kd.R_mono (Kd.R_far (p := ⟨gb14055, 1, none⟩) (Kd.R_far (p := ⟨gb14055, 0, none⟩) (Kd.R_types HO14038.out BK14055.out (by decide)) (fun _ hk => hk.2) (.slice Ao66 t14042.length co66)) (fun _ hk => hk.2) (.slice Ao68 t14045.length co68)) (fun _ hk => ⟨hk.1.2.2.2.1, ⟨hk.1.2.2.2.2, ⟨hk.1.1, ⟨hk.1.2.1, hk.1.2.2.1⟩⟩⟩⟩))⟩
                        have n6_ : Aside0 (Kd.R (Kd.int .u8) 5 ((w65.setCell ⟨gb14055, 0, none⟩ (.slice Ao66 t14042.length co66)).setCell ⟨gb14055, 1, none⟩ (.slice Ao68 t14045.length co68)) w.heap.size (fun k_ => some k_ ≠ (.slice Ao57 x14008000_2.length co57 : Value).ownBlock ∧ some k_ ≠ (.slice Ao58 x14008001_2.length co58 : Value).ownBlock ∧ some k_ ≠ (v14037 : Value).ownBlock ∧ some k_ ≠ (.slice Ao66 t14042.length co66 : Value).ownBlock ∧ some k_ ≠ (.slice Ao68 t14045.length co68 : Value).ownBlock) v14040 t14039) := ⟨Kd.R_ext (Kd.R_mono (Kd.R_far (p := ⟨gb14055, 1, none⟩) (Kd.R_far (p := ⟨gb14055, 0, none⟩) (Kd.R_types HO14041.out BK14055.out (by decide)) (fun _ hk => hk.2) (.slice Ao66 t14042.length co66)) (fun _ hk => hk.2) (.slice Ao68 t14045.length co68)) (fun _ hk => ⟨hk.1.2.2.2.1, ⟨hk.1.2.2.2.2, ⟨hk.1.1, ⟨hk.1.2.1, hk.1.2.2.1⟩⟩⟩⟩))⟩
                        have n7_ : Aside0 (Kd.R (Kd.int .u8) 5 ((w65.setCell ⟨gb14055, 0, none⟩ (.slice Ao66 t14042.length co66)).setCell ⟨gb14055, 1, none⟩ (.slice Ao68 t14045.length co68)) w.heap.size (fun k_ => some k_ ≠ (.slice Ao57 x14008000_2.length co57 : Value).ownBlock ∧ some k_ ≠ (.slice Ao58 x14008001_2.length co58 : Value).ownBlock ∧ some k_ ≠ (v14037 : Value).ownBlock ∧ some k_ ≠ (v14040 : Value).ownBlock ∧ some k_ ≠ (.slice Ao68 t14045.length co68 : Value).ownBlock) (.slice Ao66 t14042.length co66) t14042) := ⟨Kd.R_ext (Kd.R_mono (Kd.R_far (p := ⟨gb14055, 1, none⟩) (Kd.R_far (p := ⟨gb14055, 0, none⟩) (Kd.R_types HO14044.out BK14055.out (by decide)) (fun _ hk => hk.2) (.slice Ao66 t14042.length co66)) (fun _ hk => hk.2) (.slice Ao68 t14045.length co68)) (fun _ hk => ⟨hk.1.2.2.2.1, ⟨hk.1.2.2.2.2, ⟨hk.1.1, ⟨hk.1.2.1, hk.1.2.2.1⟩⟩⟩⟩))⟩
                        have n8_ : Aside0 (Kd.R (Kd.int .u8) 5 ((w65.setCell ⟨gb14055, 0, none⟩ (.slice Ao66 t14042.length co66)).setCell ⟨gb14055, 1, none⟩ (.slice Ao68 t14045.length co68)) w.heap.size (fun k_ => some k_ ≠ (.slice Ao57 x14008000_2.length co57 : Value).ownBlock ∧ some k_ ≠ (.slice Ao58 x14008001_2.length co58 : Value).ownBlock ∧ some k_ ≠ (v14037 : Value).ownBlock ∧ some k_ ≠ (v14040 : Value).ownBlock ∧ some k_ ≠ (.slice Ao66 t14042.length co66 : Value).ownBlock) (.slice Ao68 t14045.length co68) t14045) := ⟨Kd.R_ext (Kd.R_mono (Kd.R_far (p := ⟨gb14055, 1, none⟩) (Kd.R_far (p := ⟨gb14055, 0, none⟩) (Kd.R_types HO14047.out BK14055.out (by decide)) (fun _ hk => hk.2) (.slice Ao66 t14042.length co66)) (fun _ hk => hk.2) (.slice Ao68 t14045.length co68)) (fun _ hk => ⟨hk.1.2.2.2.1, ⟨hk.1.2.2.2.2, ⟨hk.1.1, ⟨hk.1.2.1, hk.1.2.2.1⟩⟩⟩⟩))⟩
                        have n9_ : Aside0 (Kd.V (Kd.int .u8) 5 ((w65.setCell ⟨gb14055, 0, none⟩ (.slice Ao66 t14042.length co66)).setCell ⟨gb14055, 1, none⟩ (.slice Ao68 t14045.length co68)) w.heap.size (fun k_ => some k_ ≠ (.slice Ao27 t14001.length co27 : Value).ownBlock ∧ some k_ ≠ (.slice Ao52 t14004.length co52 : Value).ownBlock ∧ some k_ ≠ (.slice Ao57 x14008000_2.length co57 : Value).ownBlock ∧ some k_ ≠ (.slice Ao58 x14008001_2.length co58 : Value).ownBlock ∧ some k_ ≠ (.slice Ao80 y14032.length co80 : Value).ownBlock ∧ some k_ ≠ (v14037 : Value).ownBlock ∧ some k_ ≠ (v14040 : Value).ownBlock ∧ some k_ ≠ (.slice Ao66 t14042.length co66 : Value).ownBlock ∧ some k_ ≠ (.slice Ao68 t14045.length co68 : Value).ownBlock ∧ some k_ ≠ (.slice Ao79 t14052.length co79 : Value).ownBlock ∧ k_ ≠ gb14007 ∧ k_ ≠ gb14055) v14049 t14048) := ⟨Kd.V_ext (Kd.V_mono (Kd.V_far (p := ⟨gb14055, 1, none⟩) (Kd.V_far (p := ⟨gb14055, 0, none⟩) (Kd.V_mono HO14050.out (fun k_ hk => (⟨hk, hk.2.2.2.2.2.2.2.2.2.2.2⟩ : _ ∧ k_ ≠ gb14055))) (fun _ hk => hk.2) (.slice Ao66 t14042.length co66)) (fun _ hk => hk.2) (.slice Ao68 t14045.length co68)) (fun _ hk => ⟨hk.1.2.2.2.2.2.2.1, ⟨hk.1.2.2.2.2.2.2.2.1, ⟨hk.1.2.2.2.2.2.2.2.2.1, ⟨hk.1.2.2.2.2.2.2.2.2.2.1, ⟨hk.1.1, ⟨hk.1.2.1, ⟨hk.1.2.2.1, ⟨hk.1.2.2.2.1, ⟨hk.1.2.2.2.2.1, ⟨hk.1.2.2.2.2.2.1, ⟨hk.1.2.2.2.2.2.2.2.2.2.2.1, hk.1.2.2.2.2.2.2.2.2.2.2.2⟩⟩⟩⟩⟩⟩⟩⟩⟩⟩⟩))⟩
                        have n10_ : Aside0 (Kd.N (Kd.slice 5 (Kd.int .u8)) 22 ((w65.setCell ⟨gb14055, 0, none⟩ (.slice Ao66 t14042.length co66)).setCell ⟨gb14055, 1, none⟩ (.slice Ao68 t14045.length co68)) w.heap.size (fun k_ => some k_ ≠ (.slice Ao27 t14001.length co27 : Value).ownBlock ∧ some k_ ≠ (.slice Ao52 t14004.length co52 : Value).ownBlock ∧ some k_ ≠ (.slice Ao57 x14008000_2.length co57 : Value).ownBlock ∧ some k_ ≠ (.slice Ao58 x14008001_2.length co58 : Value).ownBlock ∧ some k_ ≠ (.slice Ao80 y14032.length co80 : Value).ownBlock ∧ some k_ ≠ (v14037 : Value).ownBlock ∧ some k_ ≠ (v14040 : Value).ownBlock ∧ some k_ ≠ (.slice Ao66 t14042.length co66 : Value).ownBlock ∧ some k_ ≠ (.slice Ao68 t14045.length co68 : Value).ownBlock ∧ k_ ≠ gb14007 ∧ k_ ≠ gb14055) (.slice Ao79 t14052.length co79) t14052) := ⟨Kd.N_ext (Kd.N_mono (Kd.N_far (p := ⟨gb14055, 1, none⟩) (Kd.N_far (p := ⟨gb14055, 0, none⟩) (Kd.N_mono HO14054.out (fun k_ hk => (⟨hk, hk.2.2.2.2.2.2.2.2.2.2⟩ : _ ∧ k_ ≠ gb14055))) (fun _ hk => hk.2) (.slice Ao66 t14042.length co66)) (fun _ hk => hk.2) (.slice Ao68 t14045.length co68)) (fun _ hk => ⟨hk.1.2.2.2.2.2.1, ⟨hk.1.2.2.2.2.2.2.1, ⟨hk.1.2.2.2.2.2.2.2.1, ⟨hk.1.2.2.2.2.2.2.2.2.1, ⟨hk.1.1, ⟨hk.1.2.1, ⟨hk.1.2.2.1, ⟨hk.1.2.2.2.1, ⟨hk.1.2.2.2.2.1, ⟨hk.1.2.2.2.2.2.2.2.2.2.1, hk.1.2.2.2.2.2.2.2.2.2.2⟩⟩⟩⟩⟩⟩⟩⟩⟩⟩))⟩
                        have n11_ : Aside0 (((w65.setCell ⟨gb14055, 0, none⟩ (.slice Ao66 t14042.length co66)).setCell ⟨gb14055, 1, none⟩ (.slice Ao68 t14045.length co68)).heap[gb14007]? = some (.cells #[.slice Ao57 x14008000_2.length co57, .slice Ao58 x14008001_2.length co58] 24 (0, 0))) := ⟨blk_extC BK14007.out⟩
                        have n12_ : Aside0 (((w65.setCell ⟨gb14055, 0, none⟩ (.slice Ao66 t14042.length co66)).setCell ⟨gb14055, 1, none⟩ (.slice Ao68 t14045.length co68)).heap[gb14055]? = some (.cells #[.slice Ao66 t14042.length co66, .slice Ao68 t14045.length co68] 24 (0, 0))) := ⟨by (with_reducible repeat (first | refine blk_drewN ?_ _ | refine blk_drew ?_ | refine blk_alloc ?_ _)); refine blk_put (cs := #[.slice Ao66 t14042.length co66, .slice none 0 0]) ?_ 1 _ rfl; (with_reducible repeat (first | refine blk_drewN ?_ _ | refine blk_drew ?_ | refine blk_alloc ?_ _)); refine blk_put (cs := #[.slice none 0 0, .slice none 0 0]) ?_ 0 _ rfl; exact blk_ext BK14055.out⟩
                        have n13_ : Aside0 (Below w.heap.size w ((w65.setCell ⟨gb14055, 0, none⟩ (.slice Ao66 t14042.length co66)).setCell ⟨gb14055, 1, none⟩ (.slice Ao68 t14045.length co68))) := ⟨below_extB HB.out⟩
                        (try clear HO_0)
                        (try clear HO_1)
                        (try clear HO_14008000)
                        (try clear HO_14008001)
                        (try clear HO14034)
                        (try clear HO14038)
                        (try clear HO14041)
                        (try clear HO14044)
                        (try clear HO14047)
                        (try clear HO14050)
                        (try clear HO14054)
                        (try clear BK14007)
                        (try clear BK14055)
                        (try clear HB)
                        generalize ((w65.setCell ⟨gb14055, 0, none⟩ (.slice Ao66 t14042.length co66)).setCell ⟨gb14055, 1, none⟩ (.slice Ao68 t14045.length co68)) = w82 at n0_ n1_ n2_ n3_ n4_ n5_ n6_ n7_ n8_ n9_ n10_ n11_ n12_ n13_ ⊢
                        have HO_0 := n0_
                        have HO_1 := n1_
                        have HO_14008000 := n2_
                        have HO_14008001 := n3_
                        have HO14034 := n4_
                        have HO14038 := n5_
                        have HO14041 := n6_
                        have HO14044 := n7_
                        have HO14047 := n8_
                        have HO14050 := n9_
                        have HO14054 := n10_
                        have BK14007 := n11_
                        have BK14055 := n12_
                        have HB := n13_
                        clear n0_ n1_ n2_ n3_ n4_ n5_ n6_ n7_ n8_ n9_ n10_ n11_ n12_ n13_
                        have q81 : ((t14052.length : Int) : Int) ≤ ((y14032.length : Int) : Int) := of_decide_eq_true (by first | (with_reducible assumption) | assumption)
                        obtain ⟨i081, hi081, _, hsz81, _⟩ := info_parts info22
                        have hroom81 : y14032.length ≤ co80 := (Kd.N_reads' HO14034.out).2.1
                        have hC81 : Kd.F (Kd.slice 5 (Kd.int .u8)) _ _ Ao80 y14032.length y14032 := (Kd.V_at (base := w.heap.size) (Kd.N_V HO14034.out)).2.2
                        have hcut81 := cut_to (P := Try.prog) 34 22 .i64 Try.underlying34 hi081 Ao80 y14032.length co80 (t14052.length : Int) (of_decide_eq_true (by first | (with_reducible assumption) | assumption)) q81 hroom81
                        have hr81 := Kd.F_take (m := ((t14052.length : Int) : Int).toNat) hC81 (by omega)
                        have hy81 : y14056.length = ((t14052.length : Int) : Int).toNat := (by rw [Ny14056.out, List.length_take]; omega)
                        rw [← Ny14056.out] at hr81
                        rw [← hy81] at hcut81
                        have HO14060 := Aside0.mk (show Kd.V (Kd.slice 5 (Kd.int .u8)) 22 _ w.heap.size _ (.slice Ao80 y14056.length co80) y14056 from Kd.V_mk (by omega) hr81)
                        have HC14060 := Aside0.mk (show y14056.length ≤ co80 from by omega)
                        clear hr81 hC81 hroom81 hi081 hsz81
                        have KY81 := Aside0.mk hy81
                        clear hy81
                        replace q81 := eq_true q81
                        go_wp2_with (first | (go_at_call 63; (with_reducible refine (customsref33_SameRecords.calls k2 _ _ t14052 _ _ y14056 t14061 _ ?side1 ?side2 ?side3 ?side4 A78.out).mono ?_); (case side1 => exact Kd.C_ext (Kd.N_reads' HO14054.out).2.2); (case side2 => exact (Kd.N_reads' HO14054.out).2.1); (case side3 => exact Kd.C_ext (Kd.V_reads' HO14060.out).2.2); (case side4 => exact (Kd.V_reads' HO14060.out).2.1); rintro e w' ⟨rfl, ⟨nd, rfl⟩⟩))
                        go_meet
                        case rel => exact ⟨_, (!t14061), (by first | rfl | (simp; done) | (simp [*]; done)), H', ⟨by have := HK1.out; have := HK2.out; first | omega | exact Nat.le_refl _⟩, ⟨Kd.N_ext (Kd.N_mono HO14054.out (fun _ hk => ⟨hk.2.2.2.2.2.2.2.1, ⟨hk.2.2.2.2.2.2.2.2.1, hk.2.2.2.2.2.2.2.2.2.2⟩⟩))⟩, ⟨Kd.R_ext (Kd.R_mono HO14044.out (fun _ hk => hk.2.2.2.2))⟩, ⟨Kd.R_ext (Kd.R_mono HO14047.out (fun _ hk => hk.2.2.2.2))⟩, ⟨blk_ext BK14055.out⟩, ⟨below_extB HB.out⟩⟩
                case rest =>
                  clear HC51
                  try clear c2
                  try clear p2
                  try clear c6
                  try clear c7
                  try clear q8
                  try clear c25
                  try clear c27
                  try clear c61
                  try clear c70
                  try clear c71
                  try clear c71b0
                  try clear c71b1
                  try clear c73
                  try clear c73b0
                  try clear c73b1
                  try clear c76
                  try clear c76b0
                  try clear c76b1
                  try clear c77
                  try clear c77b0
                  try clear c77b1
                  try clear q81
                  try clear q81
                  obtain ⟨kq, x104_50, rfl, HA, HJ50, HO_18, HO_14056000, HO_14056001, BK14055, HB⟩ := hcut
                  cases kq with
                  | zero => exact absurd HA.out (by simp [customslaw34_JournalCrash.j2])
                  | succ kj50 =>
                    have H := HA.out
                    clear HA
                    simp only [customslaw34_JournalCrash.j2] at H
                    by_cases c83 : x104_50 = true
                    · subst c83
                      have H1 : (none) = some r := by rw [if_pos rfl] at H; exact H
                      clear H
                      have H := H1
                      clear H1
                      exact absurd H (by simp)
                    · replace c83 := Bool.eq_false_iff.mpr c83
                      subst c83
                      have H1 : ((some ([109, 111, 114, 101] : List Int)).bind fun t14062 => ((journal_Append.f kj50 t14042 t14045 t14062).bind fun bt14065 => ((journal_Open.f kj50 bt14065.1 bt14065.2.1).bind fun bt14073 => (if bt14065.2.2 = 0 then ((some (([] : List (List Int)) : List (List Int))).bind fun y14087 => (if y14087.length + t14052.length < 5864062014805 then ((some (y14087 ++ t14052 : List (List Int))).bind fun y14090 => ((some ([109, 111, 114, 101] : List Int)).bind fun t14093 => (if y14090.length < 5864062014805 then ((customsref33_SameRecords.f kj50 bt14073.2.2.2.2 (y14090 ++ [t14093])).bind fun t14099 => (if t14099 = true then ((customslaw34_awake.f kj50).bind fun t14100 => (some t14100)) else (none))) else (none)))) else (none))) else (none))))) = some r := by rw [if_neg (show ¬ (false = true) by decide)] at H; exact H
                      clear H
                      have H := H1
                      clear H1
                      replace H := Option.bind_eq_some_iff.mp H
                      obtain ⟨t14062, A840, H⟩ := H
                      try dsimp only at H
                      have A84 := Aside0.mk A840
                      clear A840
                      replace H := Option.bind_eq_some_iff.mp H
                      obtain ⟨⟨t14065, t14068, t14071⟩, A850, H⟩ := H
                      try dsimp only at H
                      have A85 := Aside0.mk A850
                      clear A850
                      replace H := Option.bind_eq_some_iff.mp H
                      obtain ⟨⟨t14073, t14076, t14079, t14082, t14083⟩, A860, H⟩ := H
                      try dsimp only at H
                      have A86 := Aside0.mk A860
                      clear A860
                      replace H := if_some H; obtain ⟨c87, H⟩ := H
                      have c87b0 : (t14071 == 0) = true := beq_iff_eq.mpr c87
                      have c87b1 : (t14071 != 0) = false := bne_eq_false_iff_eq.mpr c87
                      clear c87
                      obtain ⟨y14087, hy14087⟩ : ∃ y_ : List (List Int), y_ = (([] : List (List Int))) := ⟨_, rfl⟩
                      replace H : (if y14087.length + t14052.length < 5864062014805 then ((some (y14087 ++ t14052 : List (List Int))).bind fun y14090 => ((some ([109, 111, 114, 101] : List Int)).bind fun t14093 => (if y14090.length < 5864062014805 then ((customsref33_SameRecords.f kj50 t14083 (y14090 ++ [t14093])).bind fun t14099 => (if t14099 = true then ((customslaw34_awake.f kj50).bind fun t14100 => (some t14100)) else (none))) else (none)))) else (none)) = some r := by first | (rw [hy14087]; with_reducible exact H) | (have H2_ := (Option.bind_some _ _).symm.trans H; rw [hy14087]; with_reducible exact H2_) | (have H2_ := (Option.bind_some _ _).symm.trans H; with_reducible exact H2_) | with_reducible exact H | (rw [hy14087]; exact H) | exact H
                      have Ny14087 := Aside0.mk hy14087
                      clear hy14087
                      replace H := if_some H; obtain ⟨c88, H⟩ := H
                      have LMc88 := Aside0.mk c88
                      clear c88
                      obtain ⟨y14090, hy14090⟩ : ∃ y_ : List (List Int), y_ = (y14087 ++ t14052) := ⟨_, rfl⟩
                      replace H : ((some ([109, 111, 114, 101] : List Int)).bind fun t14093 => (if y14090.length < 5864062014805 then ((customsref33_SameRecords.f kj50 t14083 (y14090 ++ [t14093])).bind fun t14099 => (if t14099 = true then ((customslaw34_awake.f kj50).bind fun t14100 => (some t14100)) else (none))) else (none))) = some r := by first | (rw [hy14090]; with_reducible exact H) | (have H2_ := (Option.bind_some _ _).symm.trans H; rw [hy14090]; with_reducible exact H2_) | (have H2_ := (Option.bind_some _ _).symm.trans H; with_reducible exact H2_) | with_reducible exact H | (rw [hy14090]; exact H) | exact H
                      have Ny14090 := Aside0.mk hy14090
                      clear hy14090
                      replace H := Option.bind_eq_some_iff.mp H
                      obtain ⟨t14093, A890, H⟩ := H
                      try dsimp only at H
                      have A89 := Aside0.mk A890
                      clear A890
                      replace H := if_some H; obtain ⟨c90, H⟩ := H
                      have LMc90 := Aside0.mk c90
                      clear c90
                      obtain ⟨y14096, hy14096⟩ : ∃ y_ : List (List Int), y_ = (y14090 ++ [t14093]) := ⟨_, rfl⟩
                      replace H : ((customsref33_SameRecords.f kj50 t14083 y14096).bind fun t14099 => (if t14099 = true then ((customslaw34_awake.f kj50).bind fun t14100 => (some t14100)) else (none))) = some r := by first | (rw [hy14096]; with_reducible exact H) | (have H2_ := (Option.bind_some _ _).symm.trans H; rw [hy14096]; with_reducible exact H2_) | (have H2_ := (Option.bind_some _ _).symm.trans H; with_reducible exact H2_) | with_reducible exact H | (rw [hy14096]; exact H) | exact H
                      have Ny14096 := Aside0.mk hy14096
                      clear hy14096
                      replace H := Option.bind_eq_some_iff.mp H
                      obtain ⟨t14099, A910, H⟩ := H
                      try dsimp only at H
                      have A91 := Aside0.mk A910
                      clear A910
                      by_cases c92 : t14099 = true
                      · subst c92
                        have H1 : ((customslaw34_awake.f kj50).bind fun t14100 => (some t14100)) = some r := by rw [if_pos rfl] at H; exact H
                        clear H
                        have H := H1
                        clear H1
                        replace H := Option.bind_eq_some_iff.mp H
                        obtain ⟨t14100, A930, H⟩ := H
                        try dsimp only at H
                        have A93 := Aside0.mk A930
                        clear A930
                        obtain rfl := Option.some.inj H
                        have hcz94_0 : wc.cell? ⟨gb14055, 0, none⟩ = some (.slice Ao66 t14042.length co66) := (blk_cell BK14055.out 0).trans rfl
                        have hcz94_1 : wc.cell? ⟨gb14055, 1, none⟩ = some (.slice Ao68 t14045.length co68) := (blk_cell BK14055.out 1).trans rfl
                        have hfz94_0 := blk_frozen BK14055.out 0
                        have hfz94_1 := blk_frozen BK14055.out 1
                        go_wp2_with (first | ((with_reducible refine gate_dst (N := 107) rfl ?_); (try (refine gate_guard (by rfl) ?_; dsimp only)); refine frz_event (N := 107) ?hg ?hh rfl 22 5 Try.underlying22 Try.underlying5 rfl A84.out ?hr (by simp) (fun _ => rfl) ?_; (case hg => rfl); (case hh => intro _; rfl); (case hr => first | (go_simp; done) | (go_simp; rfl)); intro v14063 w95 ho0 hb; have n3_ := Aside0.mk (Kd.V_lower (Kd.V_mono (ok' := fun k_ => some k_ ≠ (v14053 : Value).ownBlock ∧ some k_ ≠ (.slice Ao66 t14042.length co66 : Value).ownBlock ∧ some k_ ≠ (.slice Ao68 t14045.length co68 : Value).ownBlock ∧ k_ ≠ gb14055) ho0 (fun k_ hk_ => ⟨(Kd.fresh' (Kd.N_lt (Kd.N_ext HO_18.out)) k_ hk_), (Kd.fresh' (Kd.R_lt (Kd.R_ext HO_14056000.out)) k_ hk_), (Kd.fresh' (Kd.R_lt (Kd.R_ext HO_14056001.out)) k_ hk_), (Kd.freshB (blk_ext BK14055.out) k_ hk_)⟩)) (below_size (below_extB HB.out))); have HO14064 := n3_; replace HO_18 := mvN HO_18 hb; replace HO_14056000 := mvR HO_14056000 hb; replace HO_14056001 := mvR HO_14056001 hb; replace BK14055 := mvB BK14055 hb; replace HB := mvH HB hb; clear n3_; (try clear hb); (try clear hb2); (try clear hk); (try clear hi); (try clear ho0); obtain ⟨Ao96, co96, eo96⟩ := Kd.V_slice HO14064.out; subst eo96) | ((with_reducible refine gate_callee (f := 59) rfl ?_); refine goesL_ (some 109) rfl rfl Try.func59 (by kernel_rfl) rfl #[.agg #[.slice Ao66 t14042.length co66, .slice Ao68 t14045.length co68], .slice Ao96 t14062.length co96] rfl (by (try simp only [List.map_toArray, List.map_cons, List.map_nil]); first | done | rfl | (simp only [List.length_drop, List.length_take]; rfl)) ?_; (with_reducible refine (journal_Append.calls kj50 _ _ t14042 _ _ t14045 _ _ t14062 t14065 t14068 t14071 _ ?side1 ?side2 ?side3 ?side4 ?side5 ?side6 A85.out).mono ?_); (case side1 => exact Kd.C_ext (Kd.R_reads' HO_14056000.out).2.2); (case side2 => exact (Kd.R_reads' HO_14056000.out).2.1); (case side3 => exact Kd.C_ext (Kd.R_reads' HO_14056001.out).2.2); (case side4 => exact (Kd.R_reads' HO_14056001.out).2.1); (case side5 => exact Kd.C_ext (Kd.V_reads' HO14064.out).2.2); (case side6 => exact (Kd.V_reads' HO14064.out).2.1); rintro e w97 ⟨v14066, v14069, rfl, ho0, ho1, hb⟩; refine ⟨_, rfl, ?_⟩; have n4_ := Aside0.mk (Kd.R_lower (Kd.R_new' (Kd.R_new' ho0 (Kd.R_lt (Kd.R_ext HO_14056000.out))) (Kd.R_lt (Kd.R_ext HO_14056001.out))) (below_size (below_extB HB.out))); have n5_ := Aside0.mk (Kd.R_lower (Kd.R_new' (Kd.R_new' ho1 (Kd.R_lt (Kd.R_ext HO_14056000.out))) (Kd.R_lt (Kd.R_ext HO_14056001.out))) (below_size (below_extB HB.out))); have HO14067 := n4_; have HO14070 := n5_; replace HO_18 := tdN2 HO_18 hb (Kd.R_base ho0) (Kd.R_base ho1); replace HO_14056000 := tdR2 HO_14056000 hb (Kd.R_base ho0) (Kd.R_base ho1); replace HO_14056001 := tdR2 HO_14056001 hb (Kd.R_base ho0) (Kd.R_base ho1); replace HO14064 := tdV2 HO14064 hb (Kd.R_base ho0) (Kd.R_base ho1); replace BK14055 := mvB BK14055 hb; replace HB := mvH HB hb; clear n4_ n5_; (try clear hb); (try clear hb2); (try clear hk); (try clear hi); (try clear ho0); (try clear ho1)) | ((with_reducible refine gate_dst (N := 19) rfl ?_); (try (refine gate_guard (by rfl) ?_; dsimp only)); refine box_event ?hg (N := 19) ?hd (cs := #[.slice none 0 0, .slice none 0 0]) (t := 24) ?hr ?_; (case hd => rfl); (case hg => rfl); (case hr => first | (go_simp; done) | (go_simp; rfl)); intro gb14072 hg w98 hbox hb; have n8_ := Aside0.mk (hbox); have n9_ := Aside0.mk ((by rw [hg]; exact (below_size (below_extB HB.out)) : w.heap.size ≤ gb14072)); have n10_ := Aside0.mk ((by rw [hg]; exact (below_size (below_extB HB.out)) : w.heap.size ≤ gb14072)); have n11_ := Aside0.mk ((by rw [hg]; exact Nat.ne_of_lt (blk_lt (blk_ext BK14055.out)) : gb14055 ≠ gb14072)); have n12_ := Aside0.mk ((by rw [hg]; exact Nat.ne_of_gt (blk_lt (blk_ext BK14055.out)) : gb14072 ≠ gb14055)); have BK14072 := n8_; have GW14072 := n9_; have GE14072 := n10_; have GI14072 := GE_.mk GE14072.out; have NB14055_14072 := n11_; have NI14055_14072 := NE_.mk NB14055_14072.out; have NB14072_14055 := n12_; have NI14072_14055 := NE_.mk NB14072_14055.out; replace HO_18 := awN HO_18 hb gb14072 hg; replace HO_14056000 := mvR HO_14056000 hb; replace HO_14056001 := mvR HO_14056001 hb; replace HO14064 := awV HO14064 hb gb14072 hg; replace HO14067 := mvR HO14067 hb; replace HO14070 := mvR HO14070 hb; replace BK14055 := mvB BK14055 hb; replace HB := mvH HB hb; clear n8_ n9_ n10_ n11_ n12_; clear hb hbox hg; obtain ⟨Ao99, co99, eo99⟩ := Kd.R_slice HO14067.out; subst eo99; have hnb100 := NB14072_14055.out; have hnc100 := NB14055_14072.out; have hcz101_0 : w98.cell? ⟨gb14072, 0, none⟩ = some (.slice none 0 0) := (blk_cell BK14072.out 0).trans rfl; have hcz101_1 : w98.cell? ⟨gb14072, 1, none⟩ = some (.slice none 0 0) := (blk_cell BK14072.out 1).trans rfl; have hfz101_0 := blk_frozen BK14072.out 0; have hfz101_1 := blk_frozen BK14072.out 1; obtain ⟨Ao102, co102, eo102⟩ := Kd.R_slice HO14070.out; subst eo102) | ((with_reducible refine gate_callee (f := 61) rfl ?_); refine goesL_ (some 114) rfl rfl Try.func61 (by kernel_rfl) rfl #[.agg #[.slice Ao99 t14065.length co99, .slice Ao102 t14068.length co102]] rfl (by (try simp only [List.map_toArray, List.map_cons, List.map_nil]); first | done | rfl | (simp only [List.length_drop, List.length_take]; rfl)) ?_; (with_reducible refine (journal_Open.calls kj50 _ _ t14065 _ _ t14068 t14073 t14076 t14079 t14082 t14083 _ ?side1 ?side2 ?side3 ?side4 A86.out).mono ?_); (case side1 => refine (Kd.R_reads' (e := 5) (base := w.heap.size) (ok := fun k_ => ((some k_ ≠ (.slice Ao102 t14068.length co102 : Value).ownBlock ∧ some k_ ≠ (.slice Ao66 t14042.length co66 : Value).ownBlock) ∧ some k_ ≠ (.slice Ao68 t14045.length co68 : Value).ownBlock)) (n := t14065.length) (c := co99) ?_).2.2; exact (Kd.R_ext ((Kd.R_mono (Kd.R_far (p := ⟨gb14072, 1, none⟩) (Kd.R_far (p := ⟨gb14072, 0, none⟩) (Kd.R_types HO14067.out BK14072.out (by decide)) (fun _ hk => hk.2) (.slice Ao99 t14065.length co99)) (fun _ hk => hk.2) (.slice Ao102 t14068.length co102)) (fun _ h_ => h_.1))))); (case side2 => exact (Kd.R_reads' HO14067.out).2.1); (case side3 => refine (Kd.R_reads' (e := 5) (base := w.heap.size) (ok := fun k_ => ((some k_ ≠ (.slice Ao99 t14065.length co99 : Value).ownBlock ∧ some k_ ≠ (.slice Ao66 t14042.length co66 : Value).ownBlock) ∧ some k_ ≠ (.slice Ao68 t14045.length co68 : Value).ownBlock)) (n := t14068.length) (c := co102) ?_).2.2; exact (Kd.R_ext ((Kd.R_mono (Kd.R_far (p := ⟨gb14072, 1, none⟩) (Kd.R_far (p := ⟨gb14072, 0, none⟩) (Kd.R_types HO14070.out BK14072.out (by decide)) (fun _ hk => hk.2) (.slice Ao99 t14065.length co99)) (fun _ hk => hk.2) (.slice Ao102 t14068.length co102)) (fun _ h_ => h_.1))))); (case side4 => exact (Kd.R_reads' HO14070.out).2.1); rintro e w103 ⟨v14074, v14077, v14080, v14084, rfl, ho0, ho1, ho2, ho3, hb⟩; refine ⟨_, rfl, ?_⟩; have n0_ := Aside0.mk (Kd.N_mono (Kd.N_told (Kd.N_told (Kd.N_told (Kd.N_old (Kd.N_ext ((Kd.N_mono (Kd.N_far (p := ⟨gb14072, 1, none⟩) (Kd.N_far (p := ⟨gb14072, 0, none⟩) (Kd.N_mono HO_18.out (fun k_ hk => (⟨hk, hk.2⟩ : _ ∧ k_ ≠ gb14072))) (fun _ hk => hk.2) (.slice Ao99 t14065.length co99)) (fun _ hk => hk.2) (.slice Ao102 t14068.length co102)) (fun _ h_ => h_.1)))) hb) (Kd.R_base ho0)) (Kd.R_base ho1)) (Kd.N_base ho3)) (fun _ h_ => h_.1)); have n1_ := Aside0.mk (Kd.R_mono (Kd.R_told (Kd.R_told (Kd.R_old (Kd.R_ext ((Kd.R_mono (Kd.R_far (p := ⟨gb14072, 1, none⟩) (Kd.R_far (p := ⟨gb14072, 0, none⟩) (Kd.R_types HO_14056000.out BK14072.out (by decide)) (fun _ hk => hk.2) (.slice Ao99 t14065.length co99)) (fun _ hk => hk.2) (.slice Ao102 t14068.length co102)) (fun _ h_ => h_.1)))) hb) (Kd.R_base ho0)) (Kd.R_base ho1)) (fun _ h_ => h_.1)); have n2_ := Aside0.mk (Kd.R_mono (Kd.R_told (Kd.R_told (Kd.R_old (Kd.R_ext ((Kd.R_mono (Kd.R_far (p := ⟨gb14072, 1, none⟩) (Kd.R_far (p := ⟨gb14072, 0, none⟩) (Kd.R_types HO_14056001.out BK14072.out (by decide)) (fun _ hk => hk.2) (.slice Ao99 t14065.length co99)) (fun _ hk => hk.2) (.slice Ao102 t14068.length co102)) (fun _ h_ => h_.1)))) hb) (Kd.R_base ho0)) (Kd.R_base ho1)) (fun _ h_ => h_.1)); have n3_ := Aside0.mk (Kd.V_mono (Kd.V_told (Kd.V_told (Kd.V_told (Kd.V_old (Kd.V_ext ((Kd.V_mono (Kd.V_far (p := ⟨gb14072, 1, none⟩) (Kd.V_far (p := ⟨gb14072, 0, none⟩) (Kd.V_mono HO14064.out (fun k_ hk => (⟨hk, hk.2⟩ : _ ∧ k_ ≠ gb14072))) (fun _ hk => hk.2) (.slice Ao99 t14065.length co99)) (fun _ hk => hk.2) (.slice Ao102 t14068.length co102)) (fun _ h_ => h_.1)))) hb) (Kd.R_base ho0)) (Kd.R_base ho1)) (Kd.N_base ho3)) (fun _ h_ => h_.1)); have n4_ := Aside0.mk (Kd.R_mono (Kd.R_told (Kd.R_told (Kd.R_old (Kd.R_ext ((Kd.R_mono (Kd.R_far (p := ⟨gb14072, 1, none⟩) (Kd.R_far (p := ⟨gb14072, 0, none⟩) (Kd.R_types HO14067.out BK14072.out (by decide)) (fun _ hk => hk.2) (.slice Ao99 t14065.length co99)) (fun _ hk => hk.2) (.slice Ao102 t14068.length co102)) (fun _ h_ => h_.1)))) hb) (Kd.R_base ho0)) (Kd.R_base ho1)) (fun _ h_ => h_.1)); have n5_ := Aside0.mk (Kd.R_mono (Kd.R_told (Kd.R_told (Kd.R_old (Kd.R_ext ((Kd.R_mono (Kd.R_far (p := ⟨gb14072, 1, none⟩) (Kd.R_far (p := ⟨gb14072, 0, none⟩) (Kd.R_types HO14070.out BK14072.out (by decide)) (fun _ hk => hk.2) (.slice Ao99 t14065.length co99)) (fun _ hk => hk.2) (.slice Ao102 t14068.length co102)) (fun _ h_ => h_.1)))) hb) (Kd.R_base ho0)) (Kd.R_base ho1)) (fun _ h_ => h_.1)); have n6_ := Aside0.mk (Kd.R_lower (Kd.R_new' (Kd.R_new' (Kd.R_new' (Kd.R_new' (Kd.R_mono (ok' := fun k_ => some k_ ≠ (v14077 : Value).ownBlock) ho0 (fun _ hk_ => hk_.2)) (Kd.R_lt (Kd.R_ext ((Kd.R_mono (Kd.R_far (p := ⟨gb14072, 1, none⟩) (Kd.R_far (p := ⟨gb14072, 0, none⟩) (Kd.R_types HO_14056000.out BK14072.out (by decide)) (fun _ hk => hk.2) (.slice Ao99 t14065.length co99)) (fun _ hk => hk.2) (.slice Ao102 t14068.length co102)) (fun _ h_ => h_.1)))))) (Kd.R_lt (Kd.R_ext ((Kd.R_mono (Kd.R_far (p := ⟨gb14072, 1, none⟩) (Kd.R_far (p := ⟨gb14072, 0, none⟩) (Kd.R_types HO_14056001.out BK14072.out (by decide)) (fun _ hk => hk.2) (.slice Ao99 t14065.length co99)) (fun _ hk => hk.2) (.slice Ao102 t14068.length co102)) (fun _ h_ => h_.1)))))) (Kd.R_lt (Kd.R_ext ((Kd.R_mono (Kd.R_far (p := ⟨gb14072, 1, none⟩) (Kd.R_far (p := ⟨gb14072, 0, none⟩) (Kd.R_types HO14067.out BK14072.out (by decide)) (fun _ hk => hk.2) (.slice Ao99 t14065.length co99)) (fun _ hk => hk.2) (.slice Ao102 t14068.length co102)) (fun _ h_ => h_.1)))))) (Kd.R_lt (Kd.R_ext ((Kd.R_mono (Kd.R_far (p := ⟨gb14072, 1, none⟩) (Kd.R_far (p := ⟨gb14072, 0, none⟩) (Kd.R_types HO14070.out BK14072.out (by decide)) (fun _ hk => hk.2) (.slice Ao99 t14065.length co99)) (fun _ hk => hk.2) (.slice Ao102 t14068.length co102)) (fun _ h_ => h_.1)))))) (below_size (below_extB HB.out))); have n7_ := Aside0.mk (Kd.R_lower (Kd.R_new' (Kd.R_new' (Kd.R_new' (Kd.R_new' (Kd.R_mono (ok' := fun k_ => some k_ ≠ (v14074 : Value).ownBlock) ho1 (fun _ hk_ => hk_.2)) (Kd.R_lt (Kd.R_ext ((Kd.R_mono (Kd.R_far (p := ⟨gb14072, 1, none⟩) (Kd.R_far (p := ⟨gb14072, 0, none⟩) (Kd.R_types HO_14056000.out BK14072.out (by decide)) (fun _ hk => hk.2) (.slice Ao99 t14065.length co99)) (fun _ hk => hk.2) (.slice Ao102 t14068.length co102)) (fun _ h_ => h_.1)))))) (Kd.R_lt (Kd.R_ext ((Kd.R_mono (Kd.R_far (p := ⟨gb14072, 1, none⟩) (Kd.R_far (p := ⟨gb14072, 0, none⟩) (Kd.R_types HO_14056001.out BK14072.out (by decide)) (fun _ hk => hk.2) (.slice Ao99 t14065.length co99)) (fun _ hk => hk.2) (.slice Ao102 t14068.length co102)) (fun _ h_ => h_.1)))))) (Kd.R_lt (Kd.R_ext ((Kd.R_mono (Kd.R_far (p := ⟨gb14072, 1, none⟩) (Kd.R_far (p := ⟨gb14072, 0, none⟩) (Kd.R_types HO14067.out BK14072.out (by decide)) (fun _ hk => hk.2) (.slice Ao99 t14065.length co99)) (fun _ hk => hk.2) (.slice Ao102 t14068.length co102)) (fun _ h_ => h_.1)))))) (Kd.R_lt (Kd.R_ext ((Kd.R_mono (Kd.R_far (p := ⟨gb14072, 1, none⟩) (Kd.R_far (p := ⟨gb14072, 0, none⟩) (Kd.R_types HO14070.out BK14072.out (by decide)) (fun _ hk => hk.2) (.slice Ao99 t14065.length co99)) (fun _ hk => hk.2) (.slice Ao102 t14068.length co102)) (fun _ h_ => h_.1)))))) (below_size (below_extB HB.out))); have n8_ := Aside0.mk (Kd.V_lower (Kd.V_mono (ok' := fun k_ => some k_ ≠ (v14074 : Value).ownBlock ∧ some k_ ≠ (v14077 : Value).ownBlock ∧ some k_ ≠ (v14084 : Value).ownBlock ∧ some k_ ≠ (v14053 : Value).ownBlock ∧ some k_ ≠ (.slice Ao66 t14042.length co66 : Value).ownBlock ∧ some k_ ≠ (.slice Ao68 t14045.length co68 : Value).ownBlock ∧ some k_ ≠ (.slice Ao99 t14065.length co99 : Value).ownBlock ∧ some k_ ≠ (.slice Ao102 t14068.length co102 : Value).ownBlock ∧ k_ ≠ gb14055 ∧ k_ ≠ gb14072) ho2 (fun k_ hk_ => ⟨hk_.2.1, hk_.2.2.1, hk_.2.2.2, (Kd.fresh' (Kd.N_lt (Kd.N_ext ((Kd.N_mono (Kd.N_far (p := ⟨gb14072, 1, none⟩) (Kd.N_far (p := ⟨gb14072, 0, none⟩) (Kd.N_mono HO_18.out (fun k_ hk => (⟨hk, hk.2⟩ : _ ∧ k_ ≠ gb14072))) (fun _ hk => hk.2) (.slice Ao99 t14065.length co99)) (fun _ hk => hk.2) (.slice Ao102 t14068.length co102)) (fun _ h_ => h_.1))))) k_ hk_.1), (Kd.fresh' (Kd.R_lt (Kd.R_ext ((Kd.R_mono (Kd.R_far (p := ⟨gb14072, 1, none⟩) (Kd.R_far (p := ⟨gb14072, 0, none⟩) (Kd.R_types HO_14056000.out BK14072.out (by decide)) (fun _ hk => hk.2) (.slice Ao99 t14065.length co99)) (fun _ hk => hk.2) (.slice Ao102 t14068.length co102)) (fun _ h_ => h_.1))))) k_ hk_.1), (Kd.fresh' (Kd.R_lt (Kd.R_ext ((Kd.R_mono (Kd.R_far (p := ⟨gb14072, 1, none⟩) (Kd.R_far (p := ⟨gb14072, 0, none⟩) (Kd.R_types HO_14056001.out BK14072.out (by decide)) (fun _ hk => hk.2) (.slice Ao99 t14065.length co99)) (fun _ hk => hk.2) (.slice Ao102 t14068.length co102)) (fun _ h_ => h_.1))))) k_ hk_.1), (Kd.fresh' (Kd.R_lt (Kd.R_ext ((Kd.R_mono (Kd.R_far (p := ⟨gb14072, 1, none⟩) (Kd.R_far (p := ⟨gb14072, 0, none⟩) (Kd.R_types HO14067.out BK14072.out (by decide)) (fun _ hk => hk.2) (.slice Ao99 t14065.length co99)) (fun _ hk => hk.2) (.slice Ao102 t14068.length co102)) (fun _ h_ => h_.1))))) k_ hk_.1), (Kd.fresh' (Kd.R_lt (Kd.R_ext ((Kd.R_mono (Kd.R_far (p := ⟨gb14072, 1, none⟩) (Kd.R_far (p := ⟨gb14072, 0, none⟩) (Kd.R_types HO14070.out BK14072.out (by decide)) (fun _ hk => hk.2) (.slice Ao99 t14065.length co99)) (fun _ hk => hk.2) (.slice Ao102 t14068.length co102)) (fun _ h_ => h_.1))))) k_ hk_.1), (Kd.freshB (blk_extC BK14055.out) k_ hk_.1), (Kd.freshB (g := gb14072) (o := .cells #[.slice Ao99 t14065.length co99, .slice Ao102 t14068.length co102] 24 (0, 0)) (by (with_reducible repeat (first | refine blk_drewN ?_ _ | refine blk_drew ?_ | refine blk_alloc ?_ _)); refine blk_put (cs := #[.slice Ao99 t14065.length co99, .slice none 0 0]) ?_ 1 _ rfl; (with_reducible repeat (first | refine blk_drewN ?_ _ | refine blk_drew ?_ | refine blk_alloc ?_ _)); refine blk_put (cs := #[.slice none 0 0, .slice none 0 0]) ?_ 0 _ rfl; exact blk_ext BK14072.out) k_ hk_.1)⟩)) (below_size (below_extB HB.out))); have n9_ := Aside0.mk (Kd.N_lower (Kd.N_mono (ok' := fun k_ => some k_ ≠ (v14074 : Value).ownBlock ∧ some k_ ≠ (v14077 : Value).ownBlock ∧ some k_ ≠ (v14053 : Value).ownBlock ∧ some k_ ≠ (.slice Ao66 t14042.length co66 : Value).ownBlock ∧ some k_ ≠ (.slice Ao68 t14045.length co68 : Value).ownBlock ∧ some k_ ≠ (.slice Ao99 t14065.length co99 : Value).ownBlock ∧ some k_ ≠ (.slice Ao102 t14068.length co102 : Value).ownBlock ∧ k_ ≠ gb14055 ∧ k_ ≠ gb14072) ho3 (fun k_ hk_ => ⟨hk_.2.1, hk_.2.2, (Kd.fresh' (Kd.N_lt (Kd.N_ext ((Kd.N_mono (Kd.N_far (p := ⟨gb14072, 1, none⟩) (Kd.N_far (p := ⟨gb14072, 0, none⟩) (Kd.N_mono HO_18.out (fun k_ hk => (⟨hk, hk.2⟩ : _ ∧ k_ ≠ gb14072))) (fun _ hk => hk.2) (.slice Ao99 t14065.length co99)) (fun _ hk => hk.2) (.slice Ao102 t14068.length co102)) (fun _ h_ => h_.1))))) k_ hk_.1), (Kd.fresh' (Kd.R_lt (Kd.R_ext ((Kd.R_mono (Kd.R_far (p := ⟨gb14072, 1, none⟩) (Kd.R_far (p := ⟨gb14072, 0, none⟩) (Kd.R_types HO_14056000.out BK14072.out (by decide)) (fun _ hk => hk.2) (.slice Ao99 t14065.length co99)) (fun _ hk => hk.2) (.slice Ao102 t14068.length co102)) (fun _ h_ => h_.1))))) k_ hk_.1), (Kd.fresh' (Kd.R_lt (Kd.R_ext ((Kd.R_mono (Kd.R_far (p := ⟨gb14072, 1, none⟩) (Kd.R_far (p := ⟨gb14072, 0, none⟩) (Kd.R_types HO_14056001.out BK14072.out (by decide)) (fun _ hk => hk.2) (.slice Ao99 t14065.length co99)) (fun _ hk => hk.2) (.slice Ao102 t14068.length co102)) (fun _ h_ => h_.1))))) k_ hk_.1), (Kd.fresh' (Kd.R_lt (Kd.R_ext ((Kd.R_mono (Kd.R_far (p := ⟨gb14072, 1, none⟩) (Kd.R_far (p := ⟨gb14072, 0, none⟩) (Kd.R_types HO14067.out BK14072.out (by decide)) (fun _ hk => hk.2) (.slice Ao99 t14065.length co99)) (fun _ hk => hk.2) (.slice Ao102 t14068.length co102)) (fun _ h_ => h_.1))))) k_ hk_.1), (Kd.fresh' (Kd.R_lt (Kd.R_ext ((Kd.R_mono (Kd.R_far (p := ⟨gb14072, 1, none⟩) (Kd.R_far (p := ⟨gb14072, 0, none⟩) (Kd.R_types HO14070.out BK14072.out (by decide)) (fun _ hk => hk.2) (.slice Ao99 t14065.length co99)) (fun _ hk => hk.2) (.slice Ao102 t14068.length co102)) (fun _ h_ => h_.1))))) k_ hk_.1), (Kd.freshB (blk_extC BK14055.out) k_ hk_.1), (Kd.freshB (g := gb14072) (o := .cells #[.slice Ao99 t14065.length co99, .slice Ao102 t14068.length co102] 24 (0, 0)) (by (with_reducible repeat (first | refine blk_drewN ?_ _ | refine blk_drew ?_ | refine blk_alloc ?_ _)); refine blk_put (cs := #[.slice Ao99 t14065.length co99, .slice none 0 0]) ?_ 1 _ rfl; (with_reducible repeat (first | refine blk_drewN ?_ _ | refine blk_drew ?_ | refine blk_alloc ?_ _)); refine blk_put (cs := #[.slice none 0 0, .slice none 0 0]) ?_ 0 _ rfl; exact blk_ext BK14072.out) k_ hk_.1)⟩)) (below_size (below_extB HB.out))); have n10_ := Aside0.mk (blk_below (blk_extC BK14055.out) hb); have n11_ := Aside0.mk (blk_below (g := gb14072) (o := .cells #[.slice Ao99 t14065.length co99, .slice Ao102 t14068.length co102] 24 (0, 0)) (by (with_reducible repeat (first | refine blk_drewN ?_ _ | refine blk_drew ?_ | refine blk_alloc ?_ _)); refine blk_put (cs := #[.slice Ao99 t14065.length co99, .slice none 0 0]) ?_ 1 _ rfl; (with_reducible repeat (first | refine blk_drewN ?_ _ | refine blk_drew ?_ | refine blk_alloc ?_ _)); refine blk_put (cs := #[.slice none 0 0, .slice none 0 0]) ?_ 0 _ rfl; exact blk_ext BK14072.out) hb); clear HO_18; clear HO_14056000; clear HO_14056001; clear HO14064; clear HO14067; clear HO14070; clear BK14055; clear BK14072; have HO_18 := n0_; have HO_14056000 := n1_; have HO_14056001 := n2_; have HO14064 := n3_; have HO14067 := n4_; have HO14070 := n5_; have HO14075 := n6_; have HO14078 := n7_; have HO14081 := n8_; have HO14085 := n9_; have BK14055 := n10_; have BK14072 := n11_; replace HB := mvH HB hb; clear n0_ n1_ n2_ n3_ n4_ n5_ n6_ n7_ n8_ n9_ n10_ n11_; (try clear hb); (try clear hb2); (try clear hk); (try clear hi); (try clear ho0); (try clear ho1); (try clear ho2); (try clear ho3)) | ((with_reducible refine gate_dst (N := 21) rfl ?_); (try (refine gate_guard (by rfl) ?_; dsimp only)); refine box_event ?hg (N := 21) ?hd (cs := #[.slice none 0 0, .slice none 0 0]) (t := 24) ?hr ?_; (case hd => rfl); (case hg => rfl); (case hr => first | (go_simp; done) | (go_simp; rfl)); intro gb14086 hg w104 hbox hb; have n13_ := Aside0.mk (hbox); have n14_ := Aside0.mk ((by rw [hg]; exact (below_size (below_extB HB.out)) : w.heap.size ≤ gb14086)); have n15_ := Aside0.mk ((by rw [hg]; exact (below_size (below_extB HB.out)) : w.heap.size ≤ gb14086)); have n16_ := Aside0.mk ((by rw [hg]; exact Nat.ne_of_lt (blk_lt (blk_ext BK14055.out)) : gb14055 ≠ gb14086)); have n17_ := Aside0.mk ((by rw [hg]; exact Nat.ne_of_gt (blk_lt (blk_ext BK14055.out)) : gb14086 ≠ gb14055)); have n18_ := Aside0.mk ((by rw [hg]; exact Nat.ne_of_lt (blk_lt (blk_ext BK14072.out)) : gb14072 ≠ gb14086)); have n19_ := Aside0.mk ((by rw [hg]; exact Nat.ne_of_gt (blk_lt (blk_ext BK14072.out)) : gb14086 ≠ gb14072)); have BK14086 := n13_; have GW14086 := n14_; have GE14086 := n15_; have GI14086 := GE_.mk GE14086.out; have NB14055_14086 := n16_; have NI14055_14086 := NE_.mk NB14055_14086.out; have NB14086_14055 := n17_; have NI14086_14055 := NE_.mk NB14086_14055.out; have NB14072_14086 := n18_; have NI14072_14086 := NE_.mk NB14072_14086.out; have NB14086_14072 := n19_; have NI14086_14072 := NE_.mk NB14086_14072.out; replace HO_18 := awN HO_18 hb gb14086 hg; replace HO_14056000 := mvR HO_14056000 hb; replace HO_14056001 := mvR HO_14056001 hb; replace HO14064 := awV HO14064 hb gb14086 hg; replace HO14067 := mvR HO14067 hb; replace HO14070 := mvR HO14070 hb; replace HO14075 := mvR HO14075 hb; replace HO14078 := mvR HO14078 hb; replace HO14081 := awV HO14081 hb gb14086 hg; replace HO14085 := awN HO14085 hb gb14086 hg; replace BK14055 := mvB BK14055 hb; replace BK14072 := mvB BK14072 hb; replace HB := mvH HB hb; clear n13_ n14_ n15_ n16_ n17_ n18_ n19_; clear hb hbox hg; obtain ⟨Ao105, co105, eo105⟩ := Kd.R_slice HO14075.out; subst eo105; have hnb106 := NB14086_14055.out; have hnc106 := NB14055_14086.out; have hnb107 := NB14086_14072.out; have hnc107 := NB14072_14086.out; have hcz108_0 : w104.cell? ⟨gb14086, 0, none⟩ = some (.slice none 0 0) := (blk_cell BK14086.out 0).trans rfl; have hcz108_1 : w104.cell? ⟨gb14086, 1, none⟩ = some (.slice none 0 0) := (blk_cell BK14086.out 1).trans rfl; have hfz108_0 := blk_frozen BK14086.out 0; have hfz108_1 := blk_frozen BK14086.out 1; obtain ⟨Ao109, co109, eo109⟩ := Kd.R_slice HO14078.out; subst eo109) | ((with_reducible refine gate_dst (N := 123) rfl ?_); (try (refine gate_guard (by rfl) ?_; dsimp only)); refine Kd.N_lit (Kd.slice 5 (Kd.int .u8)) _ 22 ?hg (N' := 123) ?hd (xs := ([] : List (List Int))) (inner := []) (ok := (fun k_ => some k_ ≠ (v14053 : Value).ownBlock ∧ some k_ ≠ (.slice Ao66 t14042.length co66 : Value).ownBlock ∧ some k_ ≠ (.slice Ao68 t14045.length co68 : Value).ownBlock ∧ some k_ ≠ (.slice Ao99 t14065.length co99 : Value).ownBlock ∧ some k_ ≠ (.slice Ao102 t14068.length co102 : Value).ownBlock ∧ some k_ ≠ (.slice Ao105 t14073.length co105 : Value).ownBlock ∧ some k_ ≠ (.slice Ao109 t14076.length co109 : Value).ownBlock ∧ some k_ ≠ (v14084 : Value).ownBlock ∧ k_ ≠ gb14055 ∧ k_ ≠ gb14072 ∧ k_ ≠ gb14086)) (okp := (fun k_ => some k_ ≠ (v14053 : Value).ownBlock ∧ some k_ ≠ (.slice Ao66 t14042.length co66 : Value).ownBlock ∧ some k_ ≠ (.slice Ao68 t14045.length co68 : Value).ownBlock ∧ some k_ ≠ (.slice Ao99 t14065.length co99 : Value).ownBlock ∧ some k_ ≠ (.slice Ao102 t14068.length co102 : Value).ownBlock ∧ some k_ ≠ (.slice Ao105 t14073.length co105 : Value).ownBlock ∧ some k_ ≠ (.slice Ao109 t14076.length co109 : Value).ownBlock ∧ some k_ ≠ (v14084 : Value).ownBlock ∧ k_ ≠ gb14055 ∧ k_ ≠ gb14072 ∧ k_ ≠ gb14086)) ?hr ?hp (fun _ hk => hk) ((show ∀ k_, ((w104.setCell ⟨gb14086, 0, none⟩ (.slice Ao105 t14073.length co105)).setCell ⟨gb14086, 1, none⟩ (.slice Ao109 t14076.length co109)).heap.size ≤ k_ → (fun k_ => some k_ ≠ (v14053 : Value).ownBlock ∧ some k_ ≠ (.slice Ao66 t14042.length co66 : Value).ownBlock ∧ some k_ ≠ (.slice Ao68 t14045.length co68 : Value).ownBlock ∧ some k_ ≠ (.slice Ao99 t14065.length co99 : Value).ownBlock ∧ some k_ ≠ (.slice Ao102 t14068.length co102 : Value).ownBlock ∧ some k_ ≠ (.slice Ao105 t14073.length co105 : Value).ownBlock ∧ some k_ ≠ (.slice Ao109 t14076.length co109 : Value).ownBlock ∧ some k_ ≠ (v14084 : Value).ownBlock ∧ k_ ≠ gb14055 ∧ k_ ≠ gb14072 ∧ k_ ≠ gb14086) k_ from fun k_ hk => ⟨Kd.fresh' (Kd.N_lt (Kd.N_ext ((Kd.N_mono (Kd.N_far (p := ⟨gb14086, 1, none⟩) (Kd.N_far (p := ⟨gb14086, 0, none⟩) (Kd.N_mono HO_18.out (fun k_ hk => (⟨hk, hk.2⟩ : _ ∧ k_ ≠ gb14086))) (fun _ hk => hk.2) (.slice Ao105 t14073.length co105)) (fun _ hk => hk.2) (.slice Ao109 t14076.length co109)) (fun _ h_ => h_.1))))) k_ hk, Kd.fresh' (Kd.R_lt (Kd.R_ext ((Kd.R_mono (Kd.R_far (p := ⟨gb14086, 1, none⟩) (Kd.R_far (p := ⟨gb14086, 0, none⟩) (Kd.R_types HO_14056000.out BK14086.out (by decide)) (fun _ hk => hk.2) (.slice Ao105 t14073.length co105)) (fun _ hk => hk.2) (.slice Ao109 t14076.length co109)) (fun _ h_ => h_.1))))) k_ hk, Kd.fresh' (Kd.R_lt (Kd.R_ext ((Kd.R_mono (Kd.R_far (p := ⟨gb14086, 1, none⟩) (Kd.R_far (p := ⟨gb14086, 0, none⟩) (Kd.R_types HO_14056001.out BK14086.out (by decide)) (fun _ hk => hk.2) (.slice Ao105 t14073.length co105)) (fun _ hk => hk.2) (.slice Ao109 t14076.length co109)) (fun _ h_ => h_.1))))) k_ hk, Kd.fresh' (Kd.R_lt (Kd.R_ext ((Kd.R_mono (Kd.R_far (p := ⟨gb14086, 1, none⟩) (Kd.R_far (p := ⟨gb14086, 0, none⟩) (Kd.R_types HO14067.out BK14086.out (by decide)) (fun _ hk => hk.2) (.slice Ao105 t14073.length co105)) (fun _ hk => hk.2) (.slice Ao109 t14076.length co109)) (fun _ h_ => h_.1))))) k_ hk, Kd.fresh' (Kd.R_lt (Kd.R_ext ((Kd.R_mono (Kd.R_far (p := ⟨gb14086, 1, none⟩) (Kd.R_far (p := ⟨gb14086, 0, none⟩) (Kd.R_types HO14070.out BK14086.out (by decide)) (fun _ hk => hk.2) (.slice Ao105 t14073.length co105)) (fun _ hk => hk.2) (.slice Ao109 t14076.length co109)) (fun _ h_ => h_.1))))) k_ hk, Kd.fresh' (Kd.R_lt (Kd.R_ext ((Kd.R_mono (Kd.R_far (p := ⟨gb14086, 1, none⟩) (Kd.R_far (p := ⟨gb14086, 0, none⟩) (Kd.R_types HO14075.out BK14086.out (by decide)) (fun _ hk => hk.2) (.slice Ao105 t14073.length co105)) (fun _ hk => hk.2) (.slice Ao109 t14076.length co109)) (fun _ h_ => h_.1))))) k_ hk, Kd.fresh' (Kd.R_lt (Kd.R_ext ((Kd.R_mono (Kd.R_far (p := ⟨gb14086, 1, none⟩) (Kd.R_far (p := ⟨gb14086, 0, none⟩) (Kd.R_types HO14078.out BK14086.out (by decide)) (fun _ hk => hk.2) (.slice Ao105 t14073.length co105)) (fun _ hk => hk.2) (.slice Ao109 t14076.length co109)) (fun _ h_ => h_.1))))) k_ hk, Kd.fresh' (Kd.N_lt (Kd.N_ext ((Kd.N_mono (Kd.N_far (p := ⟨gb14086, 1, none⟩) (Kd.N_far (p := ⟨gb14086, 0, none⟩) (Kd.N_mono HO14085.out (fun k_ hk => (⟨hk, hk.2⟩ : _ ∧ k_ ≠ gb14086))) (fun _ hk => hk.2) (.slice Ao105 t14073.length co105)) (fun _ hk => hk.2) (.slice Ao109 t14076.length co109)) (fun _ h_ => h_.1))))) k_ hk, Kd.freshB (g := gb14055) (o := .cells #[.slice Ao66 t14042.length co66, .slice Ao68 t14045.length co68] 24 (0, 0)) (blk_extC BK14055.out) k_ hk, Kd.freshB (g := gb14072) (o := .cells #[.slice Ao99 t14065.length co99, .slice Ao102 t14068.length co102] 24 (0, 0)) (blk_extC BK14072.out) k_ hk, Kd.freshB (g := gb14086) (o := .cells #[.slice Ao105 t14073.length co105, .slice Ao109 t14076.length co109] 24 (0, 0)) (by (with_reducible repeat (first | refine blk_drewN ?_ _ | refine blk_drew ?_ | refine blk_alloc ?_ _)); refine blk_put (cs := #[.slice Ao105 t14073.length co105, .slice none 0 0]) ?_ 1 _ rfl; (with_reducible repeat (first | refine blk_drewN ?_ _ | refine blk_drew ?_ | refine blk_alloc ?_ _)); refine blk_put (cs := #[.slice none 0 0, .slice none 0 0]) ?_ 0 _ rfl; exact blk_ext BK14086.out) k_ hk⟩) _ (Nat.le_refl _)) (Below.refl _ _) (Nat.le_refl _) (by simp) ?_; (case hd => rfl); (case hg => rfl); (case hr => first | (go_simp; done) | (go_simp; rfl)); (case hp => exact (Reps.none _ _)); intro v14088 w110 ho111 hb hg_ hnew_; clear hg_ hnew_; (first | rw [← Ny14087.out] at ho111 | (simp only [Int.reduceToNat] at ho111; rw [← Ny14087.out] at ho111)); have n0_ := Aside0.mk (Kd.N_elder' (Kd.N_ext ((Kd.N_mono (Kd.N_far (p := ⟨gb14086, 1, none⟩) (Kd.N_far (p := ⟨gb14086, 0, none⟩) (Kd.N_mono HO_18.out (fun k_ hk => (⟨hk, hk.2⟩ : _ ∧ k_ ≠ gb14086))) (fun _ hk => hk.2) (.slice Ao105 t14073.length co105)) (fun _ hk => hk.2) (.slice Ao109 t14076.length co109)) (fun _ h_ => h_.1)))) (Kd.N_base ho111) hb); have n1_ := Aside0.mk (Kd.R_below (Kd.R_ext ((Kd.R_mono (Kd.R_far (p := ⟨gb14086, 1, none⟩) (Kd.R_far (p := ⟨gb14086, 0, none⟩) (Kd.R_types HO_14056000.out BK14086.out (by decide)) (fun _ hk => hk.2) (.slice Ao105 t14073.length co105)) (fun _ hk => hk.2) (.slice Ao109 t14076.length co109)) (fun _ h_ => h_.1)))) hb); have n2_ := Aside0.mk (Kd.R_below (Kd.R_ext ((Kd.R_mono (Kd.R_far (p := ⟨gb14086, 1, none⟩) (Kd.R_far (p := ⟨gb14086, 0, none⟩) (Kd.R_types HO_14056001.out BK14086.out (by decide)) (fun _ hk => hk.2) (.slice Ao105 t14073.length co105)) (fun _ hk => hk.2) (.slice Ao109 t14076.length co109)) (fun _ h_ => h_.1)))) hb); have n3_ := Aside0.mk (Kd.V_elder' (Kd.V_ext ((Kd.V_mono (Kd.V_far (p := ⟨gb14086, 1, none⟩) (Kd.V_far (p := ⟨gb14086, 0, none⟩) (Kd.V_mono HO14064.out (fun k_ hk => (⟨hk, hk.2⟩ : _ ∧ k_ ≠ gb14086))) (fun _ hk => hk.2) (.slice Ao105 t14073.length co105)) (fun _ hk => hk.2) (.slice Ao109 t14076.length co109)) (fun _ h_ => h_.1)))) (Kd.N_base ho111) hb); have n4_ := Aside0.mk (Kd.R_below (Kd.R_ext ((Kd.R_mono (Kd.R_far (p := ⟨gb14086, 1, none⟩) (Kd.R_far (p := ⟨gb14086, 0, none⟩) (Kd.R_types HO14067.out BK14086.out (by decide)) (fun _ hk => hk.2) (.slice Ao105 t14073.length co105)) (fun _ hk => hk.2) (.slice Ao109 t14076.length co109)) (fun _ h_ => h_.1)))) hb); have n5_ := Aside0.mk (Kd.R_below (Kd.R_ext ((Kd.R_mono (Kd.R_far (p := ⟨gb14086, 1, none⟩) (Kd.R_far (p := ⟨gb14086, 0, none⟩) (Kd.R_types HO14070.out BK14086.out (by decide)) (fun _ hk => hk.2) (.slice Ao105 t14073.length co105)) (fun _ hk => hk.2) (.slice Ao109 t14076.length co109)) (fun _ h_ => h_.1)))) hb); have n6_ := Aside0.mk (Kd.R_below (Kd.R_ext ((Kd.R_mono (Kd.R_far (p := ⟨gb14086, 1, none⟩) (Kd.R_far (p := ⟨gb14086, 0, none⟩) (Kd.R_types HO14075.out BK14086.out (by decide)) (fun _ hk => hk.2) (.slice Ao105 t14073.length co105)) (fun _ hk => hk.2) (.slice Ao109 t14076.length co109)) (fun _ h_ => h_.1)))) hb); have n7_ := Aside0.mk (Kd.R_below (Kd.R_ext ((Kd.R_mono (Kd.R_far (p := ⟨gb14086, 1, none⟩) (Kd.R_far (p := ⟨gb14086, 0, none⟩) (Kd.R_types HO14078.out BK14086.out (by decide)) (fun _ hk => hk.2) (.slice Ao105 t14073.length co105)) (fun _ hk => hk.2) (.slice Ao109 t14076.length co109)) (fun _ h_ => h_.1)))) hb); have n8_ := Aside0.mk (Kd.V_elder' (Kd.V_ext ((Kd.V_mono (Kd.V_far (p := ⟨gb14086, 1, none⟩) (Kd.V_far (p := ⟨gb14086, 0, none⟩) (Kd.V_mono HO14081.out (fun k_ hk => (⟨hk, hk.2⟩ : _ ∧ k_ ≠ gb14086))) (fun _ hk => hk.2) (.slice Ao105 t14073.length co105)) (fun _ hk => hk.2) (.slice Ao109 t14076.length co109)) (fun _ h_ => h_.1)))) (Kd.N_base ho111) hb); have n9_ := Aside0.mk (Kd.N_elder' (Kd.N_ext ((Kd.N_mono (Kd.N_far (p := ⟨gb14086, 1, none⟩) (Kd.N_far (p := ⟨gb14086, 0, none⟩) (Kd.N_mono HO14085.out (fun k_ hk => (⟨hk, hk.2⟩ : _ ∧ k_ ≠ gb14086))) (fun _ hk => hk.2) (.slice Ao105 t14073.length co105)) (fun _ hk => hk.2) (.slice Ao109 t14076.length co109)) (fun _ h_ => h_.1)))) (Kd.N_base ho111) hb); have n10_ := Aside0.mk (Kd.N_lower ho111 (below_size (below_extB HB.out))); have n11_ := Aside0.mk (blk_below (blk_extC BK14055.out) hb); have n12_ := Aside0.mk (blk_below (blk_extC BK14072.out) hb); have n13_ := Aside0.mk (blk_below (g := gb14086) (o := .cells #[.slice Ao105 t14073.length co105, .slice Ao109 t14076.length co109] 24 (0, 0)) (by (with_reducible repeat (first | refine blk_drewN ?_ _ | refine blk_drew ?_ | refine blk_alloc ?_ _)); refine blk_put (cs := #[.slice Ao105 t14073.length co105, .slice none 0 0]) ?_ 1 _ rfl; (with_reducible repeat (first | refine blk_drewN ?_ _ | refine blk_drew ?_ | refine blk_alloc ?_ _)); refine blk_put (cs := #[.slice none 0 0, .slice none 0 0]) ?_ 0 _ rfl; exact blk_ext BK14086.out) hb); clear HO_18; clear HO_14056000; clear HO_14056001; clear HO14064; clear HO14067; clear HO14070; clear HO14075; clear HO14078; clear HO14081; clear HO14085; clear BK14055; clear BK14072; clear BK14086; have HO_18 := n0_; have HO_14056000 := n1_; have HO_14056001 := n2_; have HO14064 := n3_; have HO14067 := n4_; have HO14070 := n5_; have HO14075 := n6_; have HO14078 := n7_; have HO14081 := n8_; have HO14085 := n9_; have HO14089 := n10_; have BK14055 := n11_; have BK14072 := n12_; have BK14086 := n13_; replace HB := mvH HB hb; clear n0_ n1_ n2_ n3_ n4_ n5_ n6_ n7_ n8_ n9_ n10_ n11_ n12_ n13_; clear hb ho111; obtain ⟨Ao113, co113, eo113⟩ := Kd.N_slice HO_18.out; subst eo113) | ((with_reducible refine gate_builtin (b := .append) (xs := #[.tmp 123, .tmp 124]) rfl ?_); (try (refine gate_guard (by rfl) ?_; dsimp only)); at_builtin; refine Kd.N_append_rows (Kd.slice 5 (Kd.int .u8)) (w0 := w) w.heap.size rfl (.tmp 123) (.tmp 124) 34 22 (.slice none 0 0) 24 rfl Try.underlying34 info22 rfl (by decide) (by omega) v14088 y14087 t14052 _ _ _ (fun k_ => some k_ ≠ (.slice Ao66 t14042.length co66 : Value).ownBlock ∧ some k_ ≠ (.slice Ao68 t14045.length co68 : Value).ownBlock ∧ some k_ ≠ (.slice Ao99 t14065.length co99 : Value).ownBlock ∧ some k_ ≠ (.slice Ao102 t14068.length co102 : Value).ownBlock ∧ some k_ ≠ (.slice Ao105 t14073.length co105 : Value).ownBlock ∧ some k_ ≠ (.slice Ao109 t14076.length co109 : Value).ownBlock ∧ some k_ ≠ (v14084 : Value).ownBlock ∧ k_ ≠ gb14055 ∧ k_ ≠ gb14072 ∧ k_ ≠ gb14086) (fun k_ => ((fun k_ => some k_ ≠ (.slice Ao66 t14042.length co66 : Value).ownBlock ∧ some k_ ≠ (.slice Ao68 t14045.length co68 : Value).ownBlock ∧ some k_ ≠ (.slice Ao99 t14065.length co99 : Value).ownBlock ∧ some k_ ≠ (.slice Ao102 t14068.length co102 : Value).ownBlock ∧ some k_ ≠ (.slice Ao105 t14073.length co105 : Value).ownBlock ∧ some k_ ≠ (.slice Ao109 t14076.length co109 : Value).ownBlock ∧ some k_ ≠ (v14084 : Value).ownBlock ∧ k_ ≠ gb14055 ∧ k_ ≠ gb14072 ∧ k_ ≠ gb14086)) k_ ∧ some k_ ≠ (v14088 : Value).ownBlock) rfl rfl ?aO ?aR (fun _ hk => hk) ?aF ?aB ?aS ?aL ?_; (case aR => exact (by skip; exact Kd.N_F (Kd.N_mono (ok' := (fun k_ => ((fun k_ => some k_ ≠ (.slice Ao66 t14042.length co66 : Value).ownBlock ∧ some k_ ≠ (.slice Ao68 t14045.length co68 : Value).ownBlock ∧ some k_ ≠ (.slice Ao99 t14065.length co99 : Value).ownBlock ∧ some k_ ≠ (.slice Ao102 t14068.length co102 : Value).ownBlock ∧ some k_ ≠ (.slice Ao105 t14073.length co105 : Value).ownBlock ∧ some k_ ≠ (.slice Ao109 t14076.length co109 : Value).ownBlock ∧ some k_ ≠ (v14084 : Value).ownBlock ∧ k_ ≠ gb14055 ∧ k_ ≠ gb14072 ∧ k_ ≠ gb14086)) k_ ∧ some k_ ≠ (v14088 : Value).ownBlock)) (HO_18.out) (fun k_ hk => ⟨⟨hk.1.1.1.1.1.1.1.1.1, ⟨hk.1.1.1.1.1.1.1.1.2.1, ⟨hk.1.1.1.1.1.1.1.2, ⟨hk.1.1.1.1.1.1.2, ⟨hk.1.1.1.1.2, ⟨hk.1.1.1.2, ⟨hk.1.1.2, ⟨hk.1.1.1.1.1.1.1.1.2.2, ⟨hk.1.1.1.1.1.2, hk.1.2⟩⟩⟩⟩⟩⟩⟩⟩⟩, hk.2⟩)))); (case aB => exact (below_extB HB.out)); (case aF => exact (fun k_ hk => ⟨Kd.fresh' (Kd.R_lt (Kd.R_ext HO_14056000.out)) k_ hk, Kd.fresh' (Kd.R_lt (Kd.R_ext HO_14056001.out)) k_ hk, Kd.fresh' (Kd.R_lt (Kd.R_ext HO14067.out)) k_ hk, Kd.fresh' (Kd.R_lt (Kd.R_ext HO14070.out)) k_ hk, Kd.fresh' (Kd.R_lt (Kd.R_ext HO14075.out)) k_ hk, Kd.fresh' (Kd.R_lt (Kd.R_ext HO14078.out)) k_ hk, Kd.fresh' (Kd.N_lt (Kd.N_ext HO14085.out)) k_ hk, Kd.freshB (g := gb14055) (o := .cells #[.slice Ao66 t14042.length co66, .slice Ao68 t14045.length co68] 24 (0, 0)) (blk_ext BK14055.out) k_ hk, Kd.freshB (g := gb14072) (o := .cells #[.slice Ao99 t14065.length co99, .slice Ao102 t14068.length co102] 24 (0, 0)) (blk_ext BK14072.out) k_ hk, Kd.freshB (g := gb14086) (o := .cells #[.slice Ao105 t14073.length co105, .slice Ao109 t14076.length co109] 24 (0, 0)) (blk_ext BK14086.out) k_ hk⟩)); (case aO => exact (Kd.N_ext (Kd.N_mono HO14089.out (fun _ hk => ⟨hk.2.1, ⟨hk.2.2.1, ⟨hk.2.2.2.1, ⟨hk.2.2.2.2.1, ⟨hk.2.2.2.2.2.1, ⟨hk.2.2.2.2.2.2.1, ⟨hk.2.2.2.2.2.2.2.1, ⟨hk.2.2.2.2.2.2.2.2.1, ⟨hk.2.2.2.2.2.2.2.2.2.1, hk.2.2.2.2.2.2.2.2.2.2⟩⟩⟩⟩⟩⟩⟩⟩⟩)))); (case aS => exact (below_size (below_extB HB.out))); (case aL => have := LMc88.out; omega); intro v14091 w112 ho hb hg hat; rw [← Ny14090.out] at ho; have n0_ := Aside0.mk (Kd.N_afterv (ok := (fun k_ => some k_ ≠ (.slice Ao66 t14042.length co66 : Value).ownBlock ∧ some k_ ≠ (.slice Ao68 t14045.length co68 : Value).ownBlock ∧ some k_ ≠ (.slice Ao99 t14065.length co99 : Value).ownBlock ∧ some k_ ≠ (.slice Ao102 t14068.length co102 : Value).ownBlock ∧ some k_ ≠ (.slice Ao105 t14073.length co105 : Value).ownBlock ∧ some k_ ≠ (.slice Ao109 t14076.length co109 : Value).ownBlock ∧ some k_ ≠ (v14084 : Value).ownBlock ∧ k_ ≠ gb14055 ∧ k_ ≠ gb14072 ∧ k_ ≠ gb14086)) (Kd.N_ext (Kd.N_mono HO_18.out (fun _ hk => ⟨⟨hk.1.1.1.1.1.1.1.1.1, ⟨hk.1.1.1.1.1.1.1.1.2.1, ⟨hk.1.1.1.1.1.1.1.2, ⟨hk.1.1.1.1.1.1.2, ⟨hk.1.1.1.1.2, ⟨hk.1.1.1.2, ⟨hk.1.1.2, ⟨hk.1.1.1.1.1.1.1.1.2.2, ⟨hk.1.1.1.1.1.2, hk.1.2⟩⟩⟩⟩⟩⟩⟩⟩⟩, hk.2⟩))) hg hat); have n1_ := Aside0.mk (Kd.R_over' (Kd.R_ext HO_14056000.out) (Kd.N_typed (Kd.N_ext HO14089.out)) (by decide) hg); have n2_ := Aside0.mk (Kd.R_over' (Kd.R_ext HO_14056001.out) (Kd.N_typed (Kd.N_ext HO14089.out)) (by decide) hg); have n3_ := Aside0.mk (blk_grown (g := gb14055) (o := .cells #[.slice Ao66 t14042.length co66, .slice Ao68 t14045.length co68] 24 (0, 0)) (blk_ext BK14055.out) hg (Kd.N_ne HO14089.out BK14055.out (by decide))); have n4_ := Aside0.mk (Kd.V_afterv (ok := (fun k_ => some k_ ≠ (.slice Ao113 t14052.length co113 : Value).ownBlock ∧ some k_ ≠ (.slice Ao66 t14042.length co66 : Value).ownBlock ∧ some k_ ≠ (.slice Ao68 t14045.length co68 : Value).ownBlock ∧ some k_ ≠ (.slice Ao99 t14065.length co99 : Value).ownBlock ∧ some k_ ≠ (.slice Ao102 t14068.length co102 : Value).ownBlock ∧ some k_ ≠ (.slice Ao105 t14073.length co105 : Value).ownBlock ∧ some k_ ≠ (.slice Ao109 t14076.length co109 : Value).ownBlock ∧ some k_ ≠ (v14084 : Value).ownBlock ∧ k_ ≠ gb14055 ∧ k_ ≠ gb14072 ∧ k_ ≠ gb14086)) (Kd.V_ext (Kd.V_mono HO14064.out (fun _ hk => ⟨⟨hk.1.1.1.1.1.1.1.1.1, ⟨hk.1.1.1.1.1.1.1.1.2.1, ⟨hk.1.1.1.1.1.1.1.1.2.2.1, ⟨hk.1.1.1.1.1.1.1.2, ⟨hk.1.1.1.1.1.1.2, ⟨hk.1.1.1.1.2, ⟨hk.1.1.1.2, ⟨hk.1.1.2, ⟨hk.1.1.1.1.1.1.1.1.2.2.2, ⟨hk.1.1.1.1.1.2, hk.1.2⟩⟩⟩⟩⟩⟩⟩⟩⟩⟩, hk.2⟩))) hg hat); have n5_ := Aside0.mk (Kd.R_over' (Kd.R_ext HO14067.out) (Kd.N_typed (Kd.N_ext HO14089.out)) (by decide) hg); have n6_ := Aside0.mk (Kd.R_over' (Kd.R_ext HO14070.out) (Kd.N_typed (Kd.N_ext HO14089.out)) (by decide) hg); have n7_ := Aside0.mk (blk_grown (g := gb14072) (o := .cells #[.slice Ao99 t14065.length co99, .slice Ao102 t14068.length co102] 24 (0, 0)) (blk_ext BK14072.out) hg (Kd.N_ne HO14089.out BK14072.out (by decide))); have n8_ := Aside0.mk (Kd.R_over' (Kd.R_ext HO14075.out) (Kd.N_typed (Kd.N_ext HO14089.out)) (by decide) hg); have n9_ := Aside0.mk (Kd.R_over' (Kd.R_ext HO14078.out) (Kd.N_typed (Kd.N_ext HO14089.out)) (by decide) hg); have n10_ := Aside0.mk (Kd.V_afterv (ok := (fun k_ => some k_ ≠ (.slice Ao113 t14052.length co113 : Value).ownBlock ∧ some k_ ≠ (.slice Ao66 t14042.length co66 : Value).ownBlock ∧ some k_ ≠ (.slice Ao68 t14045.length co68 : Value).ownBlock ∧ some k_ ≠ (.slice Ao99 t14065.length co99 : Value).ownBlock ∧ some k_ ≠ (.slice Ao102 t14068.length co102 : Value).ownBlock ∧ some k_ ≠ (.slice Ao105 t14073.length co105 : Value).ownBlock ∧ some k_ ≠ (.slice Ao109 t14076.length co109 : Value).ownBlock ∧ some k_ ≠ (v14084 : Value).ownBlock ∧ k_ ≠ gb14055 ∧ k_ ≠ gb14072 ∧ k_ ≠ gb14086)) (Kd.V_ext (Kd.V_mono HO14081.out (fun _ hk => ⟨⟨hk.1.1.2.2.2.1, ⟨hk.1.1.2.2.2.2.1, ⟨hk.1.1.2.2.2.2.2.1, ⟨hk.1.1.2.2.2.2.2.2.1, ⟨hk.1.1.2.2.2.2.2.2.2.1, ⟨hk.1.1.1, ⟨hk.1.1.2.1, ⟨hk.1.1.2.2.1, ⟨hk.1.1.2.2.2.2.2.2.2.2.1, ⟨hk.1.1.2.2.2.2.2.2.2.2.2, hk.1.2⟩⟩⟩⟩⟩⟩⟩⟩⟩⟩, hk.2⟩))) hg hat); have n11_ := Aside0.mk (Kd.N_afterv (ok := (fun k_ => some k_ ≠ (.slice Ao113 t14052.length co113 : Value).ownBlock ∧ some k_ ≠ (.slice Ao66 t14042.length co66 : Value).ownBlock ∧ some k_ ≠ (.slice Ao68 t14045.length co68 : Value).ownBlock ∧ some k_ ≠ (.slice Ao99 t14065.length co99 : Value).ownBlock ∧ some k_ ≠ (.slice Ao102 t14068.length co102 : Value).ownBlock ∧ some k_ ≠ (.slice Ao105 t14073.length co105 : Value).ownBlock ∧ some k_ ≠ (.slice Ao109 t14076.length co109 : Value).ownBlock ∧ k_ ≠ gb14055 ∧ k_ ≠ gb14072 ∧ k_ ≠ gb14086)) (Kd.N_ext (Kd.N_mono HO14085.out (fun _ hk => ⟨⟨hk.1.1.2.2.1, ⟨hk.1.1.2.2.2.1, ⟨hk.1.1.2.2.2.2.1, ⟨hk.1.1.2.2.2.2.2.1, ⟨hk.1.1.2.2.2.2.2.2.1, ⟨hk.1.1.1, ⟨hk.1.1.2.1, ⟨hk.1.1.2.2.2.2.2.2.2.1, ⟨hk.1.1.2.2.2.2.2.2.2.2, hk.1.2⟩⟩⟩⟩⟩⟩⟩⟩⟩, hk.2⟩))) hg hat); have n12_ := Aside0.mk (blk_grown (g := gb14086) (o := .cells #[.slice Ao105 t14073.length co105, .slice Ao109 t14076.length co109] 24 (0, 0)) (blk_ext BK14086.out) hg (Kd.N_ne HO14089.out BK14086.out (by decide))); have n13_ := Aside0.mk (hb); have n14_ := Aside0.mk (ho); clear HO_18; clear HO_14056000; clear HO_14056001; clear BK14055; clear HO14064; clear HO14067; clear HO14070; clear BK14072; clear HO14075; clear HO14078; clear HO14081; clear HO14085; clear BK14086; clear HB; clear HO14089; have HO_18 := n0_; have HO_14056000 := n1_; have HO_14056001 := n2_; have BK14055 := n3_; have HO14064 := n4_; have HO14067 := n5_; have HO14070 := n6_; have BK14072 := n7_; have HO14075 := n8_; have HO14078 := n9_; have HO14081 := n10_; have HO14085 := n11_; have BK14086 := n12_; have HB := n13_; have HO14092 := n14_; clear n0_ n1_ n2_ n3_ n4_ n5_ n6_ n7_ n8_ n9_ n10_ n11_ n12_ n13_ n14_; clear ho hb hg hat) | ((with_reducible refine gate_dst (N := 126) rfl ?_); (try (refine gate_guard (by rfl) ?_; dsimp only)); refine frz_event (N := 126) ?hg ?hh rfl 22 5 Try.underlying22 Try.underlying5 rfl A89.out ?hr (by simp) (fun _ => rfl) ?_; (case hg => rfl); (case hh => intro _; rfl); (case hr => first | (go_simp; done) | (go_simp; rfl)); intro v14094 w114 ho0 hb; have n11_ := Aside0.mk (Kd.V_lower (Kd.V_mono (ok' := fun k_ => some k_ ≠ (.slice Ao113 t14052.length co113 : Value).ownBlock ∧ some k_ ≠ (.slice Ao66 t14042.length co66 : Value).ownBlock ∧ some k_ ≠ (.slice Ao68 t14045.length co68 : Value).ownBlock ∧ some k_ ≠ (.slice Ao99 t14065.length co99 : Value).ownBlock ∧ some k_ ≠ (.slice Ao102 t14068.length co102 : Value).ownBlock ∧ some k_ ≠ (.slice Ao105 t14073.length co105 : Value).ownBlock ∧ some k_ ≠ (.slice Ao109 t14076.length co109 : Value).ownBlock ∧ some k_ ≠ (v14084 : Value).ownBlock ∧ some k_ ≠ (v14091 : Value).ownBlock ∧ k_ ≠ gb14055 ∧ k_ ≠ gb14072 ∧ k_ ≠ gb14086) ho0 (fun k_ hk_ => ⟨(Kd.fresh' (Kd.N_lt (Kd.N_ext HO_18.out)) k_ hk_), (Kd.fresh' (Kd.R_lt (Kd.R_ext HO_14056000.out)) k_ hk_), (Kd.fresh' (Kd.R_lt (Kd.R_ext HO_14056001.out)) k_ hk_), (Kd.fresh' (Kd.R_lt (Kd.R_ext HO14067.out)) k_ hk_), (Kd.fresh' (Kd.R_lt (Kd.R_ext HO14070.out)) k_ hk_), (Kd.fresh' (Kd.R_lt (Kd.R_ext HO14075.out)) k_ hk_), (Kd.fresh' (Kd.R_lt (Kd.R_ext HO14078.out)) k_ hk_), (Kd.fresh' (Kd.N_lt (Kd.N_ext HO14085.out)) k_ hk_), (Kd.fresh' (Kd.N_lt (Kd.N_ext HO14092.out)) k_ hk_), (Kd.freshB (blk_ext BK14055.out) k_ hk_), (Kd.freshB (blk_ext BK14072.out) k_ hk_), (Kd.freshB (blk_ext BK14086.out) k_ hk_)⟩)) (below_size (below_extB HB.out))); have HO14095 := n11_; replace HO_18 := mvN HO_18 hb; replace HO_14056000 := mvR HO_14056000 hb; replace HO_14056001 := mvR HO_14056001 hb; replace HO14064 := mvV HO14064 hb; replace HO14067 := mvR HO14067 hb; replace HO14070 := mvR HO14070 hb; replace HO14075 := mvR HO14075 hb; replace HO14078 := mvR HO14078 hb; replace HO14081 := mvV HO14081 hb; replace HO14085 := mvN HO14085 hb; replace HO14092 := mvN HO14092 hb; replace BK14055 := mvB BK14055 hb; replace BK14072 := mvB BK14072 hb; replace BK14086 := mvB BK14086 hb; replace HB := mvH HB hb; clear n11_; (try clear hb); (try clear hb2); (try clear hk); (try clear hi); (try clear ho0); obtain ⟨Ao116, co116, eo116⟩ := Kd.V_slice HO14095.out; subst eo116) | ((with_reducible refine gate_builtin (b := .append) (xs := #[.tmp 125, .tmp 128]) rfl ?_); (try (refine gate_guard (by rfl) ?_; dsimp only)); at_builtin; refine Kd.N_append (Kd.slice 5 (Kd.int .u8)) (w0 := w) w.heap.size rfl (.tmp 125) (.tmp 128) 34 22 (.slice none 0 0) 24 rfl Try.underlying34 info22 rfl (by decide) (by omega) v14091 y14090 t14093 [.slice Ao116 t14093.length co116] (fun k_ => some k_ ≠ (.slice Ao66 t14042.length co66 : Value).ownBlock ∧ some k_ ≠ (.slice Ao68 t14045.length co68 : Value).ownBlock ∧ some k_ ≠ (.slice Ao99 t14065.length co99 : Value).ownBlock ∧ some k_ ≠ (.slice Ao102 t14068.length co102 : Value).ownBlock ∧ some k_ ≠ (.slice Ao105 t14073.length co105 : Value).ownBlock ∧ some k_ ≠ (.slice Ao109 t14076.length co109 : Value).ownBlock ∧ some k_ ≠ (v14084 : Value).ownBlock ∧ k_ ≠ gb14055 ∧ k_ ≠ gb14072 ∧ k_ ≠ gb14086) (fun k_ => ((fun k_ => some k_ ≠ (.slice Ao66 t14042.length co66 : Value).ownBlock ∧ some k_ ≠ (.slice Ao68 t14045.length co68 : Value).ownBlock ∧ some k_ ≠ (.slice Ao99 t14065.length co99 : Value).ownBlock ∧ some k_ ≠ (.slice Ao102 t14068.length co102 : Value).ownBlock ∧ some k_ ≠ (.slice Ao105 t14073.length co105 : Value).ownBlock ∧ some k_ ≠ (.slice Ao109 t14076.length co109 : Value).ownBlock ∧ some k_ ≠ (v14084 : Value).ownBlock ∧ k_ ≠ gb14055 ∧ k_ ≠ gb14072 ∧ k_ ≠ gb14086)) k_ ∧ some k_ ≠ (v14091 : Value).ownBlock) rfl rfl ?aP (fun _ hk => hk) ?aF ?aO ?aB ?aS ?aL ?_; (case aP => exact (Kd.FK_slice_mk (Kd.V_reads' (Kd.V_mono (ok' := (fun k_ => ((fun k_ => some k_ ≠ (.slice Ao66 t14042.length co66 : Value).ownBlock ∧ some k_ ≠ (.slice Ao68 t14045.length co68 : Value).ownBlock ∧ some k_ ≠ (.slice Ao99 t14065.length co99 : Value).ownBlock ∧ some k_ ≠ (.slice Ao102 t14068.length co102 : Value).ownBlock ∧ some k_ ≠ (.slice Ao105 t14073.length co105 : Value).ownBlock ∧ some k_ ≠ (.slice Ao109 t14076.length co109 : Value).ownBlock ∧ some k_ ≠ (v14084 : Value).ownBlock ∧ k_ ≠ gb14055 ∧ k_ ≠ gb14072 ∧ k_ ≠ gb14086)) k_ ∧ some k_ ≠ (v14091 : Value).ownBlock)) (HO14095.out) (fun k_ hk => ⟨⟨hk.2.1, ⟨hk.2.2.1, ⟨hk.2.2.2.1, ⟨hk.2.2.2.2.1, ⟨hk.2.2.2.2.2.1, ⟨hk.2.2.2.2.2.2.1, ⟨hk.2.2.2.2.2.2.2.1, ⟨hk.2.2.2.2.2.2.2.2.2.1, ⟨hk.2.2.2.2.2.2.2.2.2.2.1, hk.2.2.2.2.2.2.2.2.2.2.2⟩⟩⟩⟩⟩⟩⟩⟩⟩, hk.2.2.2.2.2.2.2.2.1⟩))).2.1 (Kd.V_F (Kd.V_mono (ok' := (fun k_ => ((fun k_ => some k_ ≠ (.slice Ao66 t14042.length co66 : Value).ownBlock ∧ some k_ ≠ (.slice Ao68 t14045.length co68 : Value).ownBlock ∧ some k_ ≠ (.slice Ao99 t14065.length co99 : Value).ownBlock ∧ some k_ ≠ (.slice Ao102 t14068.length co102 : Value).ownBlock ∧ some k_ ≠ (.slice Ao105 t14073.length co105 : Value).ownBlock ∧ some k_ ≠ (.slice Ao109 t14076.length co109 : Value).ownBlock ∧ some k_ ≠ (v14084 : Value).ownBlock ∧ k_ ≠ gb14055 ∧ k_ ≠ gb14072 ∧ k_ ≠ gb14086)) k_ ∧ some k_ ≠ (v14091 : Value).ownBlock)) (HO14095.out) (fun k_ hk => ⟨⟨hk.2.1, ⟨hk.2.2.1, ⟨hk.2.2.2.1, ⟨hk.2.2.2.2.1, ⟨hk.2.2.2.2.2.1, ⟨hk.2.2.2.2.2.2.1, ⟨hk.2.2.2.2.2.2.2.1, ⟨hk.2.2.2.2.2.2.2.2.2.1, ⟨hk.2.2.2.2.2.2.2.2.2.2.1, hk.2.2.2.2.2.2.2.2.2.2.2⟩⟩⟩⟩⟩⟩⟩⟩⟩, hk.2.2.2.2.2.2.2.2.1⟩))))); (case aB => exact (below_extB HB.out)); (case aF => exact (fun k_ hk => ⟨Kd.fresh' (Kd.R_lt (Kd.R_ext HO_14056000.out)) k_ hk, Kd.fresh' (Kd.R_lt (Kd.R_ext HO_14056001.out)) k_ hk, Kd.fresh' (Kd.R_lt (Kd.R_ext HO14067.out)) k_ hk, Kd.fresh' (Kd.R_lt (Kd.R_ext HO14070.out)) k_ hk, Kd.fresh' (Kd.R_lt (Kd.R_ext HO14075.out)) k_ hk, Kd.fresh' (Kd.R_lt (Kd.R_ext HO14078.out)) k_ hk, Kd.fresh' (Kd.N_lt (Kd.N_ext HO14085.out)) k_ hk, Kd.freshB (g := gb14055) (o := .cells #[.slice Ao66 t14042.length co66, .slice Ao68 t14045.length co68] 24 (0, 0)) (blk_ext BK14055.out) k_ hk, Kd.freshB (g := gb14072) (o := .cells #[.slice Ao99 t14065.length co99, .slice Ao102 t14068.length co102] 24 (0, 0)) (blk_ext BK14072.out) k_ hk, Kd.freshB (g := gb14086) (o := .cells #[.slice Ao105 t14073.length co105, .slice Ao109 t14076.length co109] 24 (0, 0)) (blk_ext BK14086.out) k_ hk⟩)); (case aO => exact (Kd.N_ext HO14092.out)); (case aS => exact (below_size (below_extB HB.out))); (case aL => have := LMc90.out; omega); intro v14097 w115 ho hb hg hat; rw [← Ny14096.out] at ho; have n0_ := Aside0.mk (Kd.N_afterv (ok := (fun k_ => some k_ ≠ (.slice Ao66 t14042.length co66 : Value).ownBlock ∧ some k_ ≠ (.slice Ao68 t14045.length co68 : Value).ownBlock ∧ some k_ ≠ (.slice Ao99 t14065.length co99 : Value).ownBlock ∧ some k_ ≠ (.slice Ao102 t14068.length co102 : Value).ownBlock ∧ some k_ ≠ (.slice Ao105 t14073.length co105 : Value).ownBlock ∧ some k_ ≠ (.slice Ao109 t14076.length co109 : Value).ownBlock ∧ some k_ ≠ (v14084 : Value).ownBlock ∧ k_ ≠ gb14055 ∧ k_ ≠ gb14072 ∧ k_ ≠ gb14086)) (Kd.N_ext HO_18.out) hg hat); have n1_ := Aside0.mk (Kd.R_over' (Kd.R_ext HO_14056000.out) (Kd.N_typed (Kd.N_ext HO14092.out)) (by decide) hg); have n2_ := Aside0.mk (Kd.R_over' (Kd.R_ext HO_14056001.out) (Kd.N_typed (Kd.N_ext HO14092.out)) (by decide) hg); have n3_ := Aside0.mk (blk_grown (g := gb14055) (o := .cells #[.slice Ao66 t14042.length co66, .slice Ao68 t14045.length co68] 24 (0, 0)) (blk_ext BK14055.out) hg (Kd.N_ne HO14092.out BK14055.out (by decide))); have n4_ := Aside0.mk (Kd.V_afterv (ok := (fun k_ => some k_ ≠ (.slice Ao113 t14052.length co113 : Value).ownBlock ∧ some k_ ≠ (.slice Ao66 t14042.length co66 : Value).ownBlock ∧ some k_ ≠ (.slice Ao68 t14045.length co68 : Value).ownBlock ∧ some k_ ≠ (.slice Ao99 t14065.length co99 : Value).ownBlock ∧ some k_ ≠ (.slice Ao102 t14068.length co102 : Value).ownBlock ∧ some k_ ≠ (.slice Ao105 t14073.length co105 : Value).ownBlock ∧ some k_ ≠ (.slice Ao109 t14076.length co109 : Value).ownBlock ∧ some k_ ≠ (v14084 : Value).ownBlock ∧ k_ ≠ gb14055 ∧ k_ ≠ gb14072 ∧ k_ ≠ gb14086)) (Kd.V_ext HO14064.out) hg hat); have n5_ := Aside0.mk (Kd.R_over' (Kd.R_ext HO14067.out) (Kd.N_typed (Kd.N_ext HO14092.out)) (by decide) hg); have n6_ := Aside0.mk (Kd.R_over' (Kd.R_ext HO14070.out) (Kd.N_typed (Kd.N_ext HO14092.out)) (by decide) hg); have n7_ := Aside0.mk (blk_grown (g := gb14072) (o := .cells #[.slice Ao99 t14065.length co99, .slice Ao102 t14068.length co102] 24 (0, 0)) (blk_ext BK14072.out) hg (Kd.N_ne HO14092.out BK14072.out (by decide))); have n8_ := Aside0.mk (Kd.R_over' (Kd.R_ext HO14075.out) (Kd.N_typed (Kd.N_ext HO14092.out)) (by decide) hg); have n9_ := Aside0.mk (Kd.R_over' (Kd.R_ext HO14078.out) (Kd.N_typed (Kd.N_ext HO14092.out)) (by decide) hg); have n10_ := Aside0.mk (Kd.V_afterv (ok := (fun k_ => some k_ ≠ (.slice Ao113 t14052.length co113 : Value).ownBlock ∧ some k_ ≠ (.slice Ao66 t14042.length co66 : Value).ownBlock ∧ some k_ ≠ (.slice Ao68 t14045.length co68 : Value).ownBlock ∧ some k_ ≠ (.slice Ao99 t14065.length co99 : Value).ownBlock ∧ some k_ ≠ (.slice Ao102 t14068.length co102 : Value).ownBlock ∧ some k_ ≠ (.slice Ao105 t14073.length co105 : Value).ownBlock ∧ some k_ ≠ (.slice Ao109 t14076.length co109 : Value).ownBlock ∧ some k_ ≠ (v14084 : Value).ownBlock ∧ k_ ≠ gb14055 ∧ k_ ≠ gb14072 ∧ k_ ≠ gb14086)) (Kd.V_ext HO14081.out) hg hat); have n11_ := Aside0.mk (Kd.N_afterv (ok := (fun k_ => some k_ ≠ (.slice Ao113 t14052.length co113 : Value).ownBlock ∧ some k_ ≠ (.slice Ao66 t14042.length co66 : Value).ownBlock ∧ some k_ ≠ (.slice Ao68 t14045.length co68 : Value).ownBlock ∧ some k_ ≠ (.slice Ao99 t14065.length co99 : Value).ownBlock ∧ some k_ ≠ (.slice Ao102 t14068.length co102 : Value).ownBlock ∧ some k_ ≠ (.slice Ao105 t14073.length co105 : Value).ownBlock ∧ some k_ ≠ (.slice Ao109 t14076.length co109 : Value).ownBlock ∧ k_ ≠ gb14055 ∧ k_ ≠ gb14072 ∧ k_ ≠ gb14086)) (Kd.N_ext HO14085.out) hg hat); have n12_ := Aside0.mk (blk_grown (g := gb14086) (o := .cells #[.slice Ao105 t14073.length co105, .slice Ao109 t14076.length co109] 24 (0, 0)) (blk_ext BK14086.out) hg (Kd.N_ne HO14092.out BK14086.out (by decide))); have n13_ := Aside0.mk (Kd.V_afterv (ok := (fun k_ => some k_ ≠ (.slice Ao113 t14052.length co113 : Value).ownBlock ∧ some k_ ≠ (.slice Ao66 t14042.length co66 : Value).ownBlock ∧ some k_ ≠ (.slice Ao68 t14045.length co68 : Value).ownBlock ∧ some k_ ≠ (.slice Ao99 t14065.length co99 : Value).ownBlock ∧ some k_ ≠ (.slice Ao102 t14068.length co102 : Value).ownBlock ∧ some k_ ≠ (.slice Ao105 t14073.length co105 : Value).ownBlock ∧ some k_ ≠ (.slice Ao109 t14076.length co109 : Value).ownBlock ∧ some k_ ≠ (v14084 : Value).ownBlock ∧ k_ ≠ gb14055 ∧ k_ ≠ gb14072 ∧ k_ ≠ gb14086)) (Kd.V_ext (Kd.V_mono HO14095.out (fun _ hk => ⟨⟨hk.1, ⟨hk.2.1, ⟨hk.2.2.1, ⟨hk.2.2.2.1, ⟨hk.2.2.2.2.1, ⟨hk.2.2.2.2.2.1, ⟨hk.2.2.2.2.2.2.1, ⟨hk.2.2.2.2.2.2.2.1, ⟨hk.2.2.2.2.2.2.2.2.2.1, ⟨hk.2.2.2.2.2.2.2.2.2.2.1, hk.2.2.2.2.2.2.2.2.2.2.2⟩⟩⟩⟩⟩⟩⟩⟩⟩⟩, hk.2.2.2.2.2.2.2.2.1⟩))) hg hat); have n14_ := Aside0.mk (hb); have n15_ := Aside0.mk (ho); clear HO_18; clear HO_14056000; clear HO_14056001; clear BK14055; clear HO14064; clear HO14067; clear HO14070; clear BK14072; clear HO14075; clear HO14078; clear HO14081; clear HO14085; clear BK14086; clear HO14095; clear HB; clear HO14092; have HO_18 := n0_; have HO_14056000 := n1_; have HO_14056001 := n2_; have BK14055 := n3_; have HO14064 := n4_; have HO14067 := n5_; have HO14070 := n6_; have BK14072 := n7_; have HO14075 := n8_; have HO14078 := n9_; have HO14081 := n10_; have HO14085 := n11_; have BK14086 := n12_; have HO14095 := n13_; have HB := n14_; have HO14098 := n15_; clear n0_ n1_ n2_ n3_ n4_ n5_ n6_ n7_ n8_ n9_ n10_ n11_ n12_ n13_ n14_ n15_; clear ho hb hg hat; obtain ⟨Ao117, co117, eo117⟩ := Kd.N_slice HO14085.out; subst eo117; obtain ⟨Ao118, co118, eo118⟩ := Kd.N_slice HO14098.out; subst eo118) | (go_at_call 63; (with_reducible refine (customsref33_SameRecords.calls kj50 _ _ t14083 _ _ y14096 true _ ?side1 ?side2 ?side3 ?side4 A91.out).mono ?_); (case side1 => exact Kd.C_ext (Kd.N_reads' HO14085.out).2.2); (case side2 => exact (Kd.N_reads' HO14085.out).2.1); (case side3 => exact Kd.C_ext (Kd.N_reads' HO14098.out).2.2); (case side4 => exact (Kd.N_reads' HO14098.out).2.1); rintro e w' ⟨rfl, ⟨nd, rfl⟩⟩) | (go_at_call 55; (with_reducible refine (customslaw34_awake.calls kj50  t14100 _ A93.out).mono ?_); rintro e w119 ⟨rfl, hb⟩; replace HO_18 := mvN HO_18 hb; replace HO_14056000 := mvR HO_14056000 hb; replace HO_14056001 := mvR HO_14056001 hb; replace HO14064 := mvV HO14064 hb; replace HO14067 := mvR HO14067 hb; replace HO14070 := mvR HO14070 hb; replace HO14075 := mvR HO14075 hb; replace HO14078 := mvR HO14078 hb; replace HO14081 := mvV HO14081 hb; replace HO14085 := mvN HO14085 hb; replace HO14095 := mvV HO14095 hb; replace HO14098 := mvN HO14098 hb; replace BK14055 := mvB BK14055 hb; replace BK14072 := mvB BK14072 hb; replace BK14086 := mvB BK14086 hb; replace HB := mvH HB hb; (try clear hb); (try clear hb2); (try clear hk); (try clear hi)))
                        go_ret
                        exact ⟨by first | rfl | (simp [errW_none, errW_some] <;> rfl) | (simp [*, errW_none, errW_some] <;> rfl), below_extB HB.out⟩
                      · replace c92 := Bool.eq_false_iff.mpr c92
                        subst c92
                        have H1 : (none) = some r := by rw [if_neg (show ¬ (false = true) by decide)] at H; exact H
                        clear H
                        have H := H1
                        clear H1
                        exact absurd H (by simp)
              · rw [if_neg c46] at H
                exact absurd H (by simp)

end Go.Proofs.Ytfljnggpnndmkaa.Z
