/- Written by a program of this session: each Go function as a plain Lean function, and that the machine's call does what it says. Conditions: none but those each theorem states. -/
import Derived.Test.YtoolggpfgadjlaaDoorZ0
import Derived.Test.YtoolggpfgadjlaaDoorZcustomsmadeWithin
import Derived.Test.YtoolggpfgadjlaaDoorZcustomsmadeGood
import Derived.Test.YtoolggpfgadjlaaDoorZgoodsValidate
import Derived.Test.YtoolggpfgadjlaaDoorZcustomsref08Good
import Derived.Test.YtoolggpfgadjlaaDoorZcustomslaw08awake
namespace Go.Proofs.YtoolggpfgadjlaaDoor.Z
open Go.RowKit Go.Proofs.YtoolggpfgadjlaaDoorW.PrintWords Go.Proofs.YtoolggpfgadjlaaDoorW.PrintLast Go.Proofs.YtoolggpfgadjlaaDoorW.PrintMore
attribute [local go_sem high] str_leq str_geq str_gtr   -- strings
attribute [local go_sem] max2_int min2_int max_two min_two max_three min_three max_four min_four   -- for this text's walks alone
set_option linter.unusedVariables false
set_option linter.unusedSimpArgs false

/-! ### customslaw08_GoodsShares: function 4 -/
def customslaw08_GoodsShares.j0 : Nat → Int → Int → List (S36) → List (S38) → List ByteArray → List (S36) → List (S38) → Bool → Option (Bool)
 | 0, _, _, _, _, _, _, _, _ => none
 | k + 1, x1, x2, x8, x9, x4012000, x4012001, x4012002, x4012003 => if (x9.length : Int) > 0 then ((customsmade_Within.f (x1 / 8) (x9.length : Int)).bind fun t4028 => (if 0 ≤ t4028 then (if t4028 < (x9.length : Int) then ((customsmade_Within.f (x2 / 8) 5).bind fun t4030 => ((some (x9.set (t4028 : Int).toNat (⟨(rd_T38 x9 t4028).f0, wrap64 (((rd_T38 x9 t4028).f1) + (wrap64 (t4030 - 2)))⟩ : S38) : List (S38))).bind fun y4031 => ((goods_Validate.f k x4012000 x8 y4031 x4012003).bind fun t4032 => ((customsref08_Good.f k x4012000 x8 y4031 x4012003).bind fun t4033 => (if t4032 = t4033 then ((customslaw08_awake.f k).bind fun t4034 => (some t4034)) else (none)))))) else (none)) else (none))) else ((goods_Validate.f k x4012000 x8 x9 x4012003).bind fun t4035 => ((customsref08_Good.f k x4012000 x8 x9 x4012003).bind fun t4036 => (if t4035 = t4036 then ((customslaw08_awake.f k).bind fun t4037 => (some t4037)) else (none))))
def customslaw08_GoodsShares.f (k : Nat) (l0 : List Int) (a1 : Int) (a2 : Int) : Option (Bool) := (customsmade_Good.f k l0).bind fun bt4001 => ((some (([] : List (S36)) : List (S36))).bind fun y4012 => (if y4012.length + bt4001.2.1.length < 5864062014805 then ((some (y4012 ++ bt4001.2.1 : List (S36))).bind fun y4015 => ((some (([] : List (S38)) : List (S38))).bind fun y4018 => (if y4018.length + bt4001.2.2.1.length < 4398046511104 then ((some (y4018 ++ bt4001.2.2.1 : List (S38))).bind fun y4021 => (if (y4015.length : Int) > 0 then ((customsmade_Within.f a1 (y4015.length : Int)).bind fun t4024 => (if 0 ≤ t4024 then (if t4024 < (y4015.length : Int) then ((customsmade_Within.f a2 5).bind fun t4026 => (customslaw08_GoodsShares.j0 k a1 a2 (y4015.set (t4024 : Int).toNat (⟨(rd_T36 y4015 t4024).f0, wrap64 (((rd_T36 y4015 t4024).f1) + (wrap64 (t4026 - 2)))⟩ : S36)) y4021 bt4001.1 bt4001.2.1 bt4001.2.2.1 bt4001.2.2.2)) else (none)) else (none))) else (customslaw08_GoodsShares.j0 k a1 a2 y4015 y4021 bt4001.1 bt4001.2.1 bt4001.2.2.1 bt4001.2.2.2))) else (none)))) else (none)))
theorem customslaw08_GoodsShares.mono_l : ∀ k, (∀ y0 y1 y2 y3 y4 y5 y6 y7, LeO (customslaw08_GoodsShares.j0 k y0 y1 y2 y3 y4 y5 y6 y7) (customslaw08_GoodsShares.j0 (k + 1) y0 y1 y2 y3 y4 y5 y6 y7))
 | 0 => fun _ _ _ _ _ _ _ _ r h => by simp [customslaw08_GoodsShares.j0] at h
 | k + 1 => by
  have ih0 := customslaw08_GoodsShares.mono_l k
  ·
   intro y0 y1 y2 y3 y4 y5 y6 y7
   unfold customslaw08_GoodsShares.j0
   repeat' first
   | (with_reducible exact ih0 _ _ _ _ _ _ _ _)
   | (with_reducible exact customslaw08_awake.mono _)
   | (with_reducible exact customsmade_Good.mono _ _)
   | (with_reducible exact customsref08_Good.mono _ _ _ _ _)
   | (with_reducible exact goods_Validate.mono _ _ _ _ _)
   | (with_reducible exact LeO.refl _)
   | (with_reducible exact LeO.none _)
   | (with_reducible refine LeO.ite ?_ ?_)
   | (with_reducible refine LeO.bind ?_ (fun _ => ?_))
   | exact ih0 _ _ _ _ _ _ _ _
   | exact customslaw08_awake.mono _
   | exact customsmade_Good.mono _ _
   | exact customsref08_Good.mono _ _ _ _ _
   | exact goods_Validate.mono _ _ _ _ _
   | exact LeO.none _
   | refine LeO.ite ?_ ?_
   | refine LeO.bind ?_ (fun _ => ?_)
theorem customslaw08_GoodsShares.mono : ∀ a0 a1 a2 k, LeO (customslaw08_GoodsShares.f k a0 a1 a2) (customslaw08_GoodsShares.f (k + 1) a0 a1 a2) := by
 intro a0 a1 a2 k
 have ih0 := customslaw08_GoodsShares.mono_l k
 unfold customslaw08_GoodsShares.f
 repeat' first
   | (with_reducible exact ih0 _ _ _ _ _ _ _ _)
   | (with_reducible exact customslaw08_awake.mono _)
   | (with_reducible exact customsmade_Good.mono _ _)
   | (with_reducible exact customsref08_Good.mono _ _ _ _ _)
   | (with_reducible exact goods_Validate.mono _ _ _ _ _)
   | (with_reducible exact LeO.refl _)
   | (with_reducible exact LeO.none _)
   | (with_reducible refine LeO.ite ?_ ?_)
   | (with_reducible refine LeO.bind ?_ (fun _ => ?_))
   | exact ih0 _ _ _ _ _ _ _ _
   | exact customslaw08_awake.mono _
   | exact customsmade_Good.mono _ _
   | exact customsref08_Good.mono _ _ _ _ _
   | exact goods_Validate.mono _ _ _ _ _
   | exact LeO.none _
   | refine LeO.ite ?_ ?_
   | refine LeO.bind ?_ (fun _ => ?_)
def customslaw08_GoodsShares.T5 : Bool × List (List Nat × List Nat) := (true, [([], []), ([], []), ([], []), ([2], [2]), ([1, 3], [1, 3]), ([0, 4], [0, 4]), ([5], [5]), ([6], [6]), ([], []), ([8, 4], [8]), ([9], [9]), ([7, 10], [7, 10]), ([0, 4, 0, 1, 2, 3, 4, 5, 6, 7, 8, 9, 10, 11], [0, 4]), ([12, 0, 1, 2, 3, 4, 5, 6, 7, 8, 9, 10, 11], [12]), ([13, 11, 9, 0, 1, 2, 3, 4, 5, 6, 7, 8, 9, 10, 11], [11, 13])])
def customslaw08_GoodsShares.B5 : List Nat := [0, 0, 0, 4, 14, 31, 63, 127, 0, 286, 798, 2047, 4095, 8191, 16383]
theorem customslaw08_GoodsShares.tab5 : rtab .any (opsOf Tryd.f4 5) = customslaw08_GoodsShares.T5 := by kernel_rfl
theorem customslaw08_GoodsShares.bits5 : waitsOk customslaw08_GoodsShares.T5.2 customslaw08_GoodsShares.B5 = true := by kernel_rfl
def customslaw08_GoodsShares.T7 : Bool × List (List Nat × List Nat) := (true, [([], []), ([], []), ([1], [1]), ([], []), ([3], [3]), ([2, 4], [2, 4]), ([0, 5], [0, 5]), ([6], [6]), ([7], [7]), ([], []), ([9], [9]), ([10, 5], [10]), ([11], [11]), ([8, 12], [8, 12]), ([0, 5, 0, 1, 2, 3, 4, 5, 6, 7, 8, 9, 10, 11, 12, 13], [0, 5]), ([14, 0, 1, 2, 3, 4, 5, 6, 7, 8, 9, 10, 11, 12, 13], [14]), ([15, 13, 11, 0, 1, 2, 3, 4, 5, 6, 7, 8, 9, 10, 11, 12, 13], [13, 15])])
def customslaw08_GoodsShares.B7 : List Nat := [0, 0, 2, 0, 8, 30, 63, 127, 255, 0, 512, 1598, 3646, 8191, 16383, 32767, 65535]
theorem customslaw08_GoodsShares.tab7 : rtab .any (opsOf Tryd.f4 7) = customslaw08_GoodsShares.T7 := by kernel_rfl
theorem customslaw08_GoodsShares.bits7 : waitsOk customslaw08_GoodsShares.T7.2 customslaw08_GoodsShares.B7 = true := by kernel_rfl
def customslaw08_GoodsShares.T9 : Bool × List (List Nat × List Nat) := (true, [([], []), ([0], [0]), ([], []), ([2, 1], [2]), ([1, 3], [1, 3]), ([4, 3], [4]), ([5, 5], [5]), ([5, 6], [5, 6]), ([7, 6, 0, 1, 2, 3, 4, 5, 6, 7], [7])])
def customslaw08_GoodsShares.B9 : List Nat := [0, 1, 0, 7, 15, 31, 63, 127, 255]
theorem customslaw08_GoodsShares.tab9 : rtab .any (opsOf Tryd.f4 9) = customslaw08_GoodsShares.T9 := by kernel_rfl
theorem customslaw08_GoodsShares.bits9 : waitsOk customslaw08_GoodsShares.T9.2 customslaw08_GoodsShares.B9 = true := by kernel_rfl
set_option maxHeartbeats 8000000 in
set_option maxRecDepth 100000 in
theorem customslaw08_GoodsShares.calls (k : Nat) (A0 : Option Addr) (c0 : Nat) (l0 : List Int) (a1 : Int) (a2 : Int) (r : Bool) (w : World) (hr0 : Kd.C (Kd.int .i64) w A0 l0.length l0) (hc0 : l0.length ≤ c0) (h : customslaw08_GoodsShares.f k l0 a1 a2 = some r) (hG : GL w) :
  Calls Tryd.prog 4 #[.slice A0 l0.length c0, .int .i64 a1, .int .i64 a2] w fun e w' => e = .returned (.bool r) ∧ Below w.heap.size w w' := by
 have hu26 := Tryd.underlying26
 have HR0 := Aside0.mk hr0
 have HC0 := Aside0.mk hc0
 clear hr0 hc0
 have HB := Aside0.mk (Below.refl w.heap.size w)
 have H : ((customsmade_Good.f k l0).bind fun bt4001 => ((some (([] : List (S36)) : List (S36))).bind fun y4012 => (if y4012.length + bt4001.2.1.length < 5864062014805 then ((some (y4012 ++ bt4001.2.1 : List (S36))).bind fun y4015 => ((some (([] : List (S38)) : List (S38))).bind fun y4018 => (if y4018.length + bt4001.2.2.1.length < 4398046511104 then ((some (y4018 ++ bt4001.2.2.1 : List (S38))).bind fun y4021 => (if (y4015.length : Int) > 0 then ((customsmade_Within.f a1 (y4015.length : Int)).bind fun t4024 => (if 0 ≤ t4024 then (if t4024 < (y4015.length : Int) then ((customsmade_Within.f a2 5).bind fun t4026 => (customslaw08_GoodsShares.j0 k a1 a2 (y4015.set (t4024 : Int).toNat (⟨(rd_T36 y4015 t4024).f0, wrap64 (((rd_T36 y4015 t4024).f1) + (wrap64 (t4026 - 2)))⟩ : S36)) y4021 bt4001.1 bt4001.2.1 bt4001.2.2.1 bt4001.2.2.2)) else (none)) else (none))) else (customslaw08_GoodsShares.j0 k a1 a2 y4015 y4021 bt4001.1 bt4001.2.1 bt4001.2.2.1 bt4001.2.2.2))) else (none)))) else (none)))) = some r := h
 clear h
 have HG := Aside0.mk hG
 clear hG
 replace H := Option.bind_eq_some_iff.mp H
 obtain ⟨⟨t4001, t4004, t4007, t4010⟩, A40, H⟩ := H
 try dsimp only at H
 have A4 := Aside0.mk A40
 clear A40
 obtain ⟨y4012, hy4012⟩ : ∃ y_ : List (S36), y_ = (([] : List (S36))) := ⟨_, rfl⟩
 replace H : (if y4012.length + t4004.length < 5864062014805 then ((some (y4012 ++ t4004 : List (S36))).bind fun y4015 => ((some (([] : List (S38)) : List (S38))).bind fun y4018 => (if y4018.length + t4007.length < 4398046511104 then ((some (y4018 ++ t4007 : List (S38))).bind fun y4021 => (if (y4015.length : Int) > 0 then ((customsmade_Within.f a1 (y4015.length : Int)).bind fun t4024 => (if 0 ≤ t4024 then (if t4024 < (y4015.length : Int) then ((customsmade_Within.f a2 5).bind fun t4026 => (customslaw08_GoodsShares.j0 k a1 a2 (y4015.set (t4024 : Int).toNat (⟨(rd_T36 y4015 t4024).f0, wrap64 (((rd_T36 y4015 t4024).f1) + (wrap64 (t4026 - 2)))⟩ : S36)) y4021 t4001 t4004 t4007 t4010)) else (none)) else (none))) else (customslaw08_GoodsShares.j0 k a1 a2 y4015 y4021 t4001 t4004 t4007 t4010))) else (none)))) else (none)) = some r := by first | (rw [hy4012]; with_reducible exact H) | (have H2_ := (Option.bind_some _ _).symm.trans H; rw [hy4012]; with_reducible exact H2_) | (have H2_ := (Option.bind_some _ _).symm.trans H; with_reducible exact H2_) | with_reducible exact H | (rw [hy4012]; exact H) | exact H
 have Ny4012 := Aside0.mk hy4012
 clear hy4012
 by_cases c5 : y4012.length + t4004.length < 5864062014805
 ·
  rw [if_pos c5] at H
  have LMc5 := Aside0.mk c5
  clear c5
  obtain ⟨y4015, hy4015⟩ : ∃ y_ : List (S36), y_ = (y4012 ++ t4004) := ⟨_, rfl⟩
  replace H : ((some (([] : List (S38)) : List (S38))).bind fun y4018 => (if y4018.length + t4007.length < 4398046511104 then ((some (y4018 ++ t4007 : List (S38))).bind fun y4021 => (if (y4015.length : Int) > 0 then ((customsmade_Within.f a1 (y4015.length : Int)).bind fun t4024 => (if 0 ≤ t4024 then (if t4024 < (y4015.length : Int) then ((customsmade_Within.f a2 5).bind fun t4026 => (customslaw08_GoodsShares.j0 k a1 a2 (y4015.set (t4024 : Int).toNat (⟨(rd_T36 y4015 t4024).f0, wrap64 (((rd_T36 y4015 t4024).f1) + (wrap64 (t4026 - 2)))⟩ : S36)) y4021 t4001 t4004 t4007 t4010)) else (none)) else (none))) else (customslaw08_GoodsShares.j0 k a1 a2 y4015 y4021 t4001 t4004 t4007 t4010))) else (none))) = some r := by first | (rw [hy4015]; with_reducible exact H) | (have H2_ := (Option.bind_some _ _).symm.trans H; rw [hy4015]; with_reducible exact H2_) | (have H2_ := (Option.bind_some _ _).symm.trans H; with_reducible exact H2_) | with_reducible exact H | (rw [hy4015]; exact H) | exact H
  have Ny4015 := Aside0.mk hy4015
  clear hy4015
  obtain ⟨y4018, hy4018⟩ : ∃ y_ : List (S38), y_ = (([] : List (S38))) := ⟨_, rfl⟩
  replace H : (if y4018.length + t4007.length < 4398046511104 then ((some (y4018 ++ t4007 : List (S38))).bind fun y4021 => (if (y4015.length : Int) > 0 then ((customsmade_Within.f a1 (y4015.length : Int)).bind fun t4024 => (if 0 ≤ t4024 then (if t4024 < (y4015.length : Int) then ((customsmade_Within.f a2 5).bind fun t4026 => (customslaw08_GoodsShares.j0 k a1 a2 (y4015.set (t4024 : Int).toNat (⟨(rd_T36 y4015 t4024).f0, wrap64 (((rd_T36 y4015 t4024).f1) + (wrap64 (t4026 - 2)))⟩ : S36)) y4021 t4001 t4004 t4007 t4010)) else (none)) else (none))) else (customslaw08_GoodsShares.j0 k a1 a2 y4015 y4021 t4001 t4004 t4007 t4010))) else (none)) = some r := by first | (rw [hy4018]; with_reducible exact H) | (have H2_ := (Option.bind_some _ _).symm.trans H; rw [hy4018]; with_reducible exact H2_) | (have H2_ := (Option.bind_some _ _).symm.trans H; with_reducible exact H2_) | with_reducible exact H | (rw [hy4018]; exact H) | exact H
  have Ny4018 := Aside0.mk hy4018
  clear hy4018
  replace H := if_some H; obtain ⟨c6, H⟩ := H
  have LMc6 := Aside0.mk c6
  clear c6
  obtain ⟨y4021, hy4021⟩ : ∃ y_ : List (S38), y_ = (y4018 ++ t4007) := ⟨_, rfl⟩
  replace H : (if (y4015.length : Int) > 0 then ((customsmade_Within.f a1 (y4015.length : Int)).bind fun t4024 => (if 0 ≤ t4024 then (if t4024 < (y4015.length : Int) then ((customsmade_Within.f a2 5).bind fun t4026 => (customslaw08_GoodsShares.j0 k a1 a2 (y4015.set (t4024 : Int).toNat (⟨(rd_T36 y4015 t4024).f0, wrap64 (((rd_T36 y4015 t4024).f1) + (wrap64 (t4026 - 2)))⟩ : S36)) y4021 t4001 t4004 t4007 t4010)) else (none)) else (none))) else (customslaw08_GoodsShares.j0 k a1 a2 y4015 y4021 t4001 t4004 t4007 t4010)) = some r := by first | (rw [hy4021]; with_reducible exact H) | (have H2_ := (Option.bind_some _ _).symm.trans H; rw [hy4021]; with_reducible exact H2_) | (have H2_ := (Option.bind_some _ _).symm.trans H; with_reducible exact H2_) | with_reducible exact H | (rw [hy4021]; exact H) | exact H
  have Ny4021 := Aside0.mk hy4021
  clear hy4021
  have HC7 := Aside0.mk H
  clear H
  go_enter Tryd.func4, Tryd.ntmps4
  go_upto_if 22 with (first | ((with_reducible refine gate_callee (f := 9) rfl ?_); refine goesL_ (some 11) rfl rfl Tryd.func9 (by kernel_rfl) rfl #[.slice A0 l0.length c0] rfl (by (try simp only [List.map_toArray, List.map_cons, List.map_nil]); first | done | rfl | (simp only [List.length_drop, List.length_take]; rfl) | (simp only [i64_w]; done) | (simp (disch := decide) only [Int.tdiv_eq_ediv_of_nonneg]; rfl)) ?_; (with_reducible refine (customsmade_Good.calls k _ _ l0 t4001 t4004 t4007 t4010 _ ?side1 ?side2 A4.out).mono ?_); (case side1 => repeat (first | exact HR0.out | (with_reducible refine Kd.C_alloc ?_ _) | (with_reducible refine Kd.C_drewN ?_ _) | (with_reducible refine Kd.C_drew ?_))); (case side2 => exact HC0.out); rintro e w8 ⟨v4002, v4005, v4008, rfl, ho0, ho1, ho2, hb⟩; refine ⟨_, rfl, ?_⟩; have n0_ := Aside0.mk (Kd.R_lower (Kd.R_mono (ok' := fun k_ => True) ho0 (fun _ hk_ => trivial)) (below_size (below_ext HB.out))); have n1_ := Aside0.mk (Kd.R_lower (Kd.R_mono (ok' := fun k_ => True) ho1 (fun _ hk_ => trivial)) (below_size (below_ext HB.out))); have n2_ := Aside0.mk (Kd.N_lower (Kd.N_mono (ok' := fun k_ => some k_ ≠ (v4002 : Value).ownBlock ∧ some k_ ≠ (v4005 : Value).ownBlock) ho2 (fun k_ hk_ => ⟨hk_.2.1, hk_.2.2⟩)) (below_size (below_ext HB.out))); have HO4003 := n0_; have HO4006 := n1_; have HO4009 := n2_; replace HB := mvH HB hb; clear n0_ n1_ n2_; (try clear hb); (try clear hb2); (try clear hk); (try clear hi); (try clear ho0); (try clear ho1); (try clear ho2)) | ((with_reducible refine gate_dst (N := 7) rfl ?_); refine box_event ?hg (N := 7) ?hd (cs := #[.slice none 0 0, .slice none 0 0, .slice none 0 0, .bool false]) (t := 26) ?hr ?_; (case hd => rfl); (case hg => rfl); (case hr => first | (go_simp; done) | (go_simp; rfl)); intro gb4011 hg w9 hbox hb; have n4_ := Aside0.mk (hbox); have n5_ := Aside0.mk ((by rw [hg]; exact (below_size (below_ext HB.out)) : w.heap.size ≤ gb4011)); have n6_ := Aside0.mk ((by rw [hg]; exact (below_size (below_ext HB.out)) : w.heap.size ≤ gb4011)); have BK4011 := n4_; have GW4011 := n5_; have GE4011 := n6_; have GI4011 := GE_.mk GE4011.out; replace HO4003 := mvR HO4003 hb; replace HO4006 := mvR HO4006 hb; replace HO4009 := awN HO4009 hb gb4011 hg; replace HB := mvH HB hb; clear n4_ n5_ n6_; clear hb hbox hg; obtain ⟨Ao10, co10, eo10⟩ := Kd.R_slice HO4003.out; subst eo10; have hcz11_0 : w9.cell? ⟨gb4011, 0, none⟩ = some (.slice none 0 0) := (blk_cell BK4011.out 0).trans rfl; have hcz11_1 : w9.cell? ⟨gb4011, 1, none⟩ = some (.slice none 0 0) := (blk_cell BK4011.out 1).trans rfl; have hcz11_2 : w9.cell? ⟨gb4011, 2, none⟩ = some (.slice none 0 0) := (blk_cell BK4011.out 2).trans rfl; have hcz11_3 : w9.cell? ⟨gb4011, 3, none⟩ = some (.bool false) := (blk_cell BK4011.out 3).trans rfl; have hfz11_0 := blk_frozen BK4011.out 0; have hfz11_1 := blk_frozen BK4011.out 1; have hfz11_2 := blk_frozen BK4011.out 2; have hfz11_3 := blk_frozen BK4011.out 3; obtain ⟨Ao12, co12, eo12⟩ := Kd.R_slice HO4006.out; subst eo12; obtain ⟨Ao13, co13, eo13⟩ := Kd.N_slice HO4009.out; subst eo13) | ((with_reducible refine gate_dst (N := 12) rfl ?_); refine Kd.R_lit k36 _ 36 ?hg (N := 12) ?hd (xs := ([] : List (S36))) (inner := []) (ok := fun _ => True) (okp := fun _ => True) ?hr ?hp (fun _ hk => hk) trivial (Below.refl _ _) (Nat.le_refl _) (by simp) ?_; (case hd => rfl); (case hg => rfl); (case hr => first | (go_simp; done) | (go_simp; rfl)); (case hp => exact (Reps.none _ _)); intro v4013 w14 ho15 hb hg_ hnew_; clear hg_ hnew_; (first | rw [← Ny4012.out] at ho15 | (simp only [Int.reduceToNat] at ho15; rw [← Ny4012.out] at ho15)); have n0_ := Aside0.mk (Kd.R_below (Kd.R_ext ((Kd.R_mono (Kd.R_far (p := ⟨gb4011, 3, none⟩) (Kd.R_far (p := ⟨gb4011, 2, none⟩) (Kd.R_far (p := ⟨gb4011, 1, none⟩) (Kd.R_far (p := ⟨gb4011, 0, none⟩) (Kd.R_types HO4003.out BK4011.out (by decide)) (fun _ hk => hk.2) (.slice Ao10 t4001.length co10)) (fun _ hk => hk.2) (.slice Ao12 t4004.length co12)) (fun _ hk => hk.2) (.slice Ao13 t4007.length co13)) (fun _ hk => hk.2) (.bool t4010)) (fun _ h_ => h_.1)))) hb); have n1_ := Aside0.mk (Kd.R_elder' (Kd.R_ext ((Kd.R_mono (Kd.R_far (p := ⟨gb4011, 3, none⟩) (Kd.R_far (p := ⟨gb4011, 2, none⟩) (Kd.R_far (p := ⟨gb4011, 1, none⟩) (Kd.R_far (p := ⟨gb4011, 0, none⟩) (Kd.R_types HO4006.out BK4011.out (by decide)) (fun _ hk => hk.2) (.slice Ao10 t4001.length co10)) (fun _ hk => hk.2) (.slice Ao12 t4004.length co12)) (fun _ hk => hk.2) (.slice Ao13 t4007.length co13)) (fun _ hk => hk.2) (.bool t4010)) (fun _ h_ => h_.1)))) (Kd.R_base ho15) hb); have n2_ := Aside0.mk (Kd.N_elder' (Kd.N_ext ((Kd.N_mono (Kd.N_far (p := ⟨gb4011, 3, none⟩) (Kd.N_far (p := ⟨gb4011, 2, none⟩) (Kd.N_far (p := ⟨gb4011, 1, none⟩) (Kd.N_far (p := ⟨gb4011, 0, none⟩) (Kd.N_mono HO4009.out (fun k_ hk => (⟨hk, hk.2⟩ : _ ∧ k_ ≠ gb4011))) (fun _ hk => hk.2) (.slice Ao10 t4001.length co10)) (fun _ hk => hk.2) (.slice Ao12 t4004.length co12)) (fun _ hk => hk.2) (.slice Ao13 t4007.length co13)) (fun _ hk => hk.2) (.bool t4010)) (fun _ h_ => h_.1)))) (Kd.R_base ho15) hb); have n3_ := Aside0.mk (Kd.R_lower (Kd.R_new' ho15 (Kd.R_lt (Kd.R_ext ((Kd.R_mono (Kd.R_far (p := ⟨gb4011, 3, none⟩) (Kd.R_far (p := ⟨gb4011, 2, none⟩) (Kd.R_far (p := ⟨gb4011, 1, none⟩) (Kd.R_far (p := ⟨gb4011, 0, none⟩) (Kd.R_types HO4006.out BK4011.out (by decide)) (fun _ hk => hk.2) (.slice Ao10 t4001.length co10)) (fun _ hk => hk.2) (.slice Ao12 t4004.length co12)) (fun _ hk => hk.2) (.slice Ao13 t4007.length co13)) (fun _ hk => hk.2) (.bool t4010)) (fun _ h_ => h_.1)))))) (below_size (below_extB HB.out))); have n4_ := Aside0.mk (blk_below (g := gb4011) (o := .cells #[.slice Ao10 t4001.length co10, .slice Ao12 t4004.length co12, .slice Ao13 t4007.length co13, .bool t4010] 26 (0, 0)) (by (with_reducible repeat (first | refine blk_drewN ?_ _ | refine blk_drew ?_ | refine blk_alloc ?_ _)); refine blk_put (cs := #[.slice Ao10 t4001.length co10, .slice Ao12 t4004.length co12, .slice Ao13 t4007.length co13, .bool false]) ?_ 3 _ rfl; (with_reducible repeat (first | refine blk_drewN ?_ _ | refine blk_drew ?_ | refine blk_alloc ?_ _)); refine blk_put (cs := #[.slice Ao10 t4001.length co10, .slice Ao12 t4004.length co12, .slice none 0 0, .bool false]) ?_ 2 _ rfl; (with_reducible repeat (first | refine blk_drewN ?_ _ | refine blk_drew ?_ | refine blk_alloc ?_ _)); refine blk_put (cs := #[.slice Ao10 t4001.length co10, .slice none 0 0, .slice none 0 0, .bool false]) ?_ 1 _ rfl; (with_reducible repeat (first | refine blk_drewN ?_ _ | refine blk_drew ?_ | refine blk_alloc ?_ _)); refine blk_put (cs := #[.slice none 0 0, .slice none 0 0, .slice none 0 0, .bool false]) ?_ 0 _ rfl; exact blk_ext BK4011.out) hb); clear HO4003; clear HO4006; clear HO4009; clear BK4011; have HO4003 := n0_; have HO4006 := n1_; have HO4009 := n2_; have HO4014 := n3_; have BK4011 := n4_; replace HB := mvH HB hb; clear n0_ n1_ n2_ n3_ n4_; clear hb ho15; have hcz16_0 : w14.cell? ⟨gb4011, 0, none⟩ = some (.slice Ao10 t4001.length co10) := (blk_cell BK4011.out 0).trans rfl; have hcz16_1 : w14.cell? ⟨gb4011, 1, none⟩ = some (.slice Ao12 t4004.length co12) := (blk_cell BK4011.out 1).trans rfl; have hcz16_2 : w14.cell? ⟨gb4011, 2, none⟩ = some (.slice Ao13 t4007.length co13) := (blk_cell BK4011.out 2).trans rfl; have hcz16_3 : w14.cell? ⟨gb4011, 3, none⟩ = some (.bool t4010) := (blk_cell BK4011.out 3).trans rfl; have hfz16_0 := blk_frozen BK4011.out 0; have hfz16_1 := blk_frozen BK4011.out 1; have hfz16_2 := blk_frozen BK4011.out 2; have hfz16_3 := blk_frozen BK4011.out 3) | ((with_reducible refine gate_builtin (b := .append) (xs := #[.tmp 12, .tmp 14]) rfl ?_); at_builtin; refine Kd.R_append_rows k36 (w0 := w) w.heap.size rfl (.tmp 12) (.tmp 14) 23 36 (.agg #[(.string ⟨#[]⟩), (.int .i64 0)]) 24 rfl Tryd.underlying23 info36 rfl (by decide) (by omega) v4013 y4012 t4004 _ _ _ (fun k_ => some k_ ≠ (.slice Ao12 t4004.length co12 : Value).ownBlock) (fun _ => False) rfl rfl ?aO ?aR (fun _ _ h => h) (fun _ h => h.elim) ?aF ?aB ?aS ?aL ?_; (case aR => exact Kd.C_ext (Kd.R_reads' HO4006.out).2.2); (case aB => exact (below_extB HB.out)); (case aF => exact (fun k_ hk => Kd.fresh' (Kd.R_lt (Kd.R_ext HO4006.out)) k_ hk)); (case aO => exact (Kd.R_ext (Kd.R_mono HO4014.out (fun _ hk => hk.2)))); (case aS => exact (below_size (below_extB HB.out))); (case aL => have := LMc5.out; omega); intro v4016 w17 ho hb hg hat; rw [← Ny4015.out] at ho; have n0_ := Aside0.mk (Kd.R_over' (Kd.R_ext HO4003.out) (Kd.R_typed (Kd.R_ext HO4014.out)) (by decide) hg); have n1_ := Aside0.mk (Kd.R_after (ok := (fun _ => True)) (Kd.R_ext HO4006.out) hg hat); have n2_ := Aside0.mk (Kd.N_afterv (ok := (fun k_ => some k_ ≠ (.slice Ao10 t4001.length co10 : Value).ownBlock ∧ some k_ ≠ (.slice Ao12 t4004.length co12 : Value).ownBlock ∧ k_ ≠ gb4011)) (Kd.N_ext (Kd.N_mono HO4009.out (fun _ hk => ⟨⟨hk.1.1.1, ⟨hk.1.1.2, hk.1.2⟩⟩, hk.2⟩))) hg hat); have n3_ := Aside0.mk (blk_grown (g := gb4011) (o := .cells #[.slice Ao10 t4001.length co10, .slice Ao12 t4004.length co12, .slice Ao13 t4007.length co13, .bool t4010] 26 (0, 0)) (blk_ext BK4011.out) hg (Kd.R_ne HO4014.out BK4011.out (by decide))); have n4_ := Aside0.mk (hb); have n5_ := Aside0.mk (ho); clear HO4003; clear HO4006; clear HO4009; clear BK4011; clear HB; clear HO4014; have HO4003 := n0_; have HO4006 := n1_; have HO4009 := n2_; have BK4011 := n3_; have HB := n4_; have HO4017 := n5_; clear n0_ n1_ n2_ n3_ n4_ n5_; clear ho hb hg hat) | ((with_reducible refine gate_dst (N := 16) rfl ?_); refine Kd.N_lit k38 _ 38 ?hg (N' := 16) ?hd (xs := ([] : List (S38))) (inner := []) (ok := (fun k_ => some k_ ≠ (.slice Ao10 t4001.length co10 : Value).ownBlock ∧ some k_ ≠ (.slice Ao12 t4004.length co12 : Value).ownBlock ∧ some k_ ≠ (.slice Ao13 t4007.length co13 : Value).ownBlock ∧ some k_ ≠ (v4016 : Value).ownBlock ∧ k_ ≠ gb4011)) (okp := (fun k_ => some k_ ≠ (.slice Ao10 t4001.length co10 : Value).ownBlock ∧ some k_ ≠ (.slice Ao12 t4004.length co12 : Value).ownBlock ∧ some k_ ≠ (.slice Ao13 t4007.length co13 : Value).ownBlock ∧ some k_ ≠ (v4016 : Value).ownBlock ∧ k_ ≠ gb4011)) ?hr ?hp (fun _ hk => hk) ((show ∀ k_, w17.heap.size ≤ k_ → (fun k_ => some k_ ≠ (.slice Ao10 t4001.length co10 : Value).ownBlock ∧ some k_ ≠ (.slice Ao12 t4004.length co12 : Value).ownBlock ∧ some k_ ≠ (.slice Ao13 t4007.length co13 : Value).ownBlock ∧ some k_ ≠ (v4016 : Value).ownBlock ∧ k_ ≠ gb4011) k_ from fun k_ hk => ⟨Kd.fresh' (Kd.R_lt (Kd.R_ext HO4003.out)) k_ hk, Kd.fresh' (Kd.R_lt (Kd.R_ext HO4006.out)) k_ hk, Kd.fresh' (Kd.N_lt (Kd.N_ext HO4009.out)) k_ hk, Kd.fresh' (Kd.R_lt (Kd.R_ext HO4017.out)) k_ hk, Kd.freshB (g := gb4011) (o := .cells #[.slice Ao10 t4001.length co10, .slice Ao12 t4004.length co12, .slice Ao13 t4007.length co13, .bool t4010] 26 (0, 0)) (blk_ext BK4011.out) k_ hk⟩) _ (Nat.le_refl _)) (Below.refl _ _) (Nat.le_refl _) (by simp) ?_; (case hd => rfl); (case hg => rfl); (case hr => first | (go_simp; done) | (go_simp; rfl)); (case hp => exact (Reps.none _ _)); intro v4019 w18 ho19 hb hg_ hnew_; clear hg_ hnew_; (first | rw [← Ny4018.out] at ho19 | (simp only [Int.reduceToNat] at ho19; rw [← Ny4018.out] at ho19)); have n4_ := Aside0.mk (Kd.N_lower ho19 (below_size (below_extB HB.out))); have HO4020 := n4_; replace HO4003 := mvR HO4003 hb; replace HO4006 := mvR HO4006 hb; replace HO4009 := apN HO4009 hb (Kd.N_base ho19); replace HO4017 := mvR HO4017 hb; replace BK4011 := mvB BK4011 hb; replace HB := mvH HB hb; clear n4_; clear hb ho19; have hcz20_0 : w18.cell? ⟨gb4011, 0, none⟩ = some (.slice Ao10 t4001.length co10) := (blk_cell BK4011.out 0).trans rfl; have hcz20_1 : w18.cell? ⟨gb4011, 1, none⟩ = some (.slice Ao12 t4004.length co12) := (blk_cell BK4011.out 1).trans rfl; have hcz20_2 : w18.cell? ⟨gb4011, 2, none⟩ = some (.slice Ao13 t4007.length co13) := (blk_cell BK4011.out 2).trans rfl; have hcz20_3 : w18.cell? ⟨gb4011, 3, none⟩ = some (.bool t4010) := (blk_cell BK4011.out 3).trans rfl; have hfz20_0 := blk_frozen BK4011.out 0; have hfz20_1 := blk_frozen BK4011.out 1; have hfz20_2 := blk_frozen BK4011.out 2; have hfz20_3 := blk_frozen BK4011.out 3) | ((with_reducible refine gate_builtin (b := .append) (xs := #[.tmp 16, .tmp 18]) rfl ?_); at_builtin; refine Kd.N_append_rows k38 (w0 := w) w.heap.size rfl (.tmp 16) (.tmp 18) 24 38 (.agg #[(.slice none 0 0), (.int .i64 0)]) 32 rfl Tryd.underlying24 info38 rfl (by decide) (by omega) v4019 y4018 t4007 _ _ _ (fun k_ => some k_ ≠ (.slice Ao10 t4001.length co10 : Value).ownBlock ∧ some k_ ≠ (.slice Ao12 t4004.length co12 : Value).ownBlock ∧ some k_ ≠ (v4016 : Value).ownBlock ∧ k_ ≠ gb4011) (fun k_ => ((fun k_ => some k_ ≠ (.slice Ao10 t4001.length co10 : Value).ownBlock ∧ some k_ ≠ (.slice Ao12 t4004.length co12 : Value).ownBlock ∧ some k_ ≠ (v4016 : Value).ownBlock ∧ k_ ≠ gb4011)) k_ ∧ some k_ ≠ (v4019 : Value).ownBlock) rfl rfl ?aO ?aR (fun _ hk => hk) ?aF ?aB ?aS ?aL ?_; (case aR => exact (by skip; exact Kd.N_F (Kd.N_mono (ok' := (fun k_ => ((fun k_ => some k_ ≠ (.slice Ao10 t4001.length co10 : Value).ownBlock ∧ some k_ ≠ (.slice Ao12 t4004.length co12 : Value).ownBlock ∧ some k_ ≠ (v4016 : Value).ownBlock ∧ k_ ≠ gb4011)) k_ ∧ some k_ ≠ (v4019 : Value).ownBlock)) (HO4009.out) (fun k_ hk => ⟨⟨hk.1.1.1, ⟨hk.1.1.2.1, ⟨hk.1.2, hk.1.1.2.2⟩⟩⟩, hk.2⟩)))); (case aB => exact (below_extB HB.out)); (case aF => exact (fun k_ hk => ⟨Kd.fresh' (Kd.R_lt (Kd.R_ext HO4003.out)) k_ hk, Kd.fresh' (Kd.R_lt (Kd.R_ext HO4006.out)) k_ hk, Kd.fresh' (Kd.R_lt (Kd.R_ext HO4017.out)) k_ hk, Kd.freshB (g := gb4011) (o := .cells #[.slice Ao10 t4001.length co10, .slice Ao12 t4004.length co12, .slice Ao13 t4007.length co13, .bool t4010] 26 (0, 0)) (blk_ext BK4011.out) k_ hk⟩)); (case aO => exact (Kd.N_ext (Kd.N_mono HO4020.out (fun _ hk => ⟨hk.1, ⟨hk.2.1, ⟨hk.2.2.2.1, hk.2.2.2.2⟩⟩⟩)))); (case aS => exact (below_size (below_extB HB.out))); (case aL => have := LMc6.out; omega); intro v4022 w21 ho hb hg hat; rw [← Ny4021.out] at ho; have n0_ := Aside0.mk (Kd.R_over' (Kd.R_ext HO4003.out) (Kd.N_typed (Kd.N_ext HO4020.out)) (by decide) hg); have n1_ := Aside0.mk (Kd.R_over' (Kd.R_ext HO4006.out) (Kd.N_typed (Kd.N_ext HO4020.out)) (by decide) hg); have n2_ := Aside0.mk (Kd.N_afterv (ok := (fun k_ => some k_ ≠ (.slice Ao10 t4001.length co10 : Value).ownBlock ∧ some k_ ≠ (.slice Ao12 t4004.length co12 : Value).ownBlock ∧ some k_ ≠ (v4016 : Value).ownBlock ∧ k_ ≠ gb4011)) (Kd.N_ext (Kd.N_mono HO4009.out (fun _ hk => ⟨⟨hk.1.1.1, ⟨hk.1.1.2.1, ⟨hk.1.2, hk.1.1.2.2⟩⟩⟩, hk.2⟩))) hg hat); have n3_ := Aside0.mk (blk_grown (g := gb4011) (o := .cells #[.slice Ao10 t4001.length co10, .slice Ao12 t4004.length co12, .slice Ao13 t4007.length co13, .bool t4010] 26 (0, 0)) (blk_ext BK4011.out) hg (Kd.N_ne HO4020.out BK4011.out (by decide))); have n4_ := Aside0.mk (Kd.R_over' (Kd.R_ext HO4017.out) (Kd.N_typed (Kd.N_ext HO4020.out)) (by decide) hg); have n5_ := Aside0.mk (hb); have n6_ := Aside0.mk (ho); clear HO4003; clear HO4006; clear HO4009; clear BK4011; clear HO4017; clear HB; clear HO4020; have HO4003 := n0_; have HO4006 := n1_; have HO4009 := n2_; have BK4011 := n3_; have HO4017 := n4_; have HB := n5_; have HO4023 := n6_; clear n0_ n1_ n2_ n3_ n4_ n5_ n6_; clear ho hb hg hat; obtain ⟨Ao22, co22, eo22⟩ := Kd.R_slice HO4017.out; subst eo22))
  (try simp only [Act.put, List.setIfInBounds_toArray, List.set_cons_zero, List.set_cons_succ])
  go_cut [] (fun wc => ∃ (kq : Nat) (x8_6 : List (S36)), Aside0 (customslaw08_GoodsShares.j0 kq a1 a2 x8_6 y4021 t4001 t4004 t4007 t4010 = some r) ∧ Aside0 (kq ≤ k) ∧ Aside0 (Kd.R k36 36 wc w.heap.size (fun k_ => some k_ ≠ ((.slice Ao12 t4004.length co12) : Value).ownBlock) (.slice Ao22 y4015.length co22) x8_6) ∧ Aside0 (Kd.N k38 38 wc w.heap.size (fun k_ => some k_ ≠ ((.slice Ao22 y4015.length co22) : Value).ownBlock ∧ some k_ ≠ ((.slice Ao10 t4001.length co10) : Value).ownBlock ∧ some k_ ≠ ((.slice Ao12 t4004.length co12) : Value).ownBlock ∧ k_ ≠ gb4011) v4022 y4021) ∧ Aside0 (Kd.R Kd.string 9 wc w.heap.size (fun _ => True) (.slice Ao10 t4001.length co10) t4001) ∧ Aside0 (Kd.R k36 36 wc w.heap.size (fun k_ => some k_ ≠ ((.slice Ao22 y4015.length co22) : Value).ownBlock) (.slice Ao12 t4004.length co12) t4004) ∧ Aside0 (Kd.N k38 38 wc w.heap.size (fun k_ => some k_ ≠ ((.slice Ao22 y4015.length co22) : Value).ownBlock ∧ some k_ ≠ (v4022 : Value).ownBlock ∧ some k_ ≠ ((.slice Ao10 t4001.length co10) : Value).ownBlock ∧ some k_ ≠ ((.slice Ao12 t4004.length co12) : Value).ownBlock ∧ k_ ≠ gb4011) (.slice Ao13 t4007.length co13) t4007) ∧ Aside0 (wc.heap[gb4011]? = some (.cells #[(.slice Ao10 t4001.length co10), (.slice Ao12 t4004.length co12), (.slice Ao13 t4007.length co13), .bool t4010] 26 (0, 0))) ∧ Aside0 (Below w.heap.size w wc))
  case first =>
   have H := HC7.out
   clear HC7
   by_cases c23 : (y4015.length : Int) > 0
   ·
    rw [if_pos c23] at H
    have c23b0 : decide (0 < (y4015.length : Int)) = true := decide_eq_true c23
    have c23b1 : decide (0 < y4015.length) = true := decide_eq_true (by omega)
    have c23b9 : (0 < y4015.length) = True := eq_true (of_decide_eq_true c23b1)
    clear c23
    (first | rw [c23b0] | (simp only [i64_w, i32_w]; rw [c23b0]) | rw [c23b1] | skip)
    replace H := Option.bind_eq_some_iff.mp H
    obtain ⟨t4024, A240, H⟩ := H
    try dsimp only at H
    have A24 := Aside0.mk A240
    clear A240
    replace H := if_some H; obtain ⟨c25, H⟩ := H
    have c25b0 : decide (0 ≤ t4024) = true := decide_eq_true c25
    clear c25
    replace H := if_some H; obtain ⟨c26, H⟩ := H
    have c26b0 : decide (t4024 < (y4015.length : Int)) = true := decide_eq_true c26
    clear c26
    replace H := Option.bind_eq_some_iff.mp H
    obtain ⟨t4026, A270, H⟩ := H
    try dsimp only at H
    have A27 := Aside0.mk A270
    clear A270
    obtain ⟨y4027, hy4027⟩ : ∃ y_ : List (S36), y_ = (y4015.set (t4024 : Int).toNat (⟨(rd_T36 y4015 t4024).f0, wrap64 (((rd_T36 y4015 t4024).f1) + (wrap64 (t4026 - 2)))⟩ : S36)) := ⟨_, rfl⟩
    replace H : (customslaw08_GoodsShares.j0 k a1 a2 y4027 y4021 t4001 t4004 t4007 t4010) = some r := by first | (rw [hy4027]; with_reducible exact H) | (have H2_ := (Option.bind_some _ _).symm.trans H; rw [hy4027]; with_reducible exact H2_) | (have H2_ := (Option.bind_some _ _).symm.trans H; with_reducible exact H2_) | with_reducible exact H | (rw [hy4027]; exact H) | exact H
    have Ny4027 := Aside0.mk hy4027
    clear hy4027
    have H' := Aside0.mk H
    clear H
    try go_wp2
    have n0_ := Aside0.mk (Kd.R_drew HO4003.out)
    have n1_ := Aside0.mk (Kd.R_drew HO4006.out)
    have n2_ := Aside0.mk (Kd.N_drew HO4009.out)
    have n3_ := Aside0.mk (Kd.R_drew HO4017.out)
    have n4_ := Aside0.mk (Kd.N_drew HO4023.out)
    have n5_ := Aside0.mk (blk_drew BK4011.out)
    have n6_ := Aside0.mk (below_drew1 HB.out)
    clear HO4003
    clear HO4006
    clear HO4009
    clear HO4017
    clear HO4023
    clear BK4011
    clear HB
    have HO4003 := n0_
    have HO4006 := n1_
    have HO4009 := n2_
    have HO4017 := n3_
    have HO4023 := n4_
    have BK4011 := n5_
    have HB := n6_
    clear n0_ n1_ n2_ n3_ n4_ n5_ n6_
    have p4025 : 0 ≤ (t4024 : Int) := of_decide_eq_true (by first | (with_reducible assumption) | assumption)
    have q4025 : t4024 < (y4015.length : Int) := of_decide_eq_true (by first | (with_reducible assumption) | assumption)
    obtain ⟨ad4025, e4025, hx4025_0, hx4025_1⟩ := at_T36 (Kd.R_reads' HO4017.out).2.2 t4024 p4025 q4025
    cases e4025
    replace p4025 := eq_true p4025
    replace q4025 := eq_true q4025
    refine start_ (n := 15) (S := fun w' => w'.cell? (ad4025.add ((t4024).toNat * 2)) = some (.string ((rd_T36 y4015 t4024).f0)) ∧ w'.cell? ⟨(ad4025.add ((t4024).toNat * 2)).block, (ad4025.add ((t4024).toNat * 2)).off + 1, none⟩ = some (.int .i64 ((rd_T36 y4015 t4024).f1))) (ds := [14]) #[false, false, false, false, false, false, false, false, false, false, false, false, false, false, false] (by kernel_rfl) rfl rfl ⟨hx4025_0, hx4025_1⟩ (fun hHeld => ?_); refine with_tabW customslaw08_GoodsShares.tab5 customslaw08_GoodsShares.bits5 (fun HT_ HW_ => ?_)
    generalize w21.drew = w29 at HO4003 HO4006 HO4009 HO4017 HO4023 BK4011 HB hx4025_0 hx4025_1 hHeld ⊢
    refine pure_ (i := 0) (N := some 23) (v := ?_) (a' := ?_) #[true, false, false, false, false, false, false, false, false, false, false, false, false, false, false] rfl rfl (any_of HT_.out (by kernel_rfl)) (fun _ _ _ h => h) (Or.inl ⟨by rfl, ?_⟩) ?_ ?_
    rotate_left
    ·
     intro w'
     go_simp
     with_reducible rfl
    rotate_left
    ·
     simp only [Act.put, List.setIfInBounds_toArray, List.set_cons_zero, List.set_cons_succ, i64_w, i32_w]
     rfl
    refine pure_ (i := 1) (N := some 24) (v := ?_) (a' := ?_) #[true, true, false, false, false, false, false, false, false, false, false, false, false, false, false] rfl rfl (any_of HT_.out (by kernel_rfl)) (fun _ _ _ h => h) (Or.inl ⟨by rfl, ?_⟩) ?_ ?_
    rotate_left
    ·
     intro w'
     go_simp
     with_reducible rfl
    rotate_left
    ·
     simp only [Act.put, List.setIfInBounds_toArray, List.set_cons_zero, List.set_cons_succ, i64_w, i32_w]
     rfl
    refine pure_ (i := 2) (N := some 25) (v := ?_) (a' := ?_) #[true, true, true, false, false, false, false, false, false, false, false, false, false, false, false] rfl rfl (any_of HT_.out (by kernel_rfl)) (fun _ _ _ h => h) (Or.inl ⟨by rfl, ?_⟩) ?_ ?_
    rotate_left
    ·
     intro w'
     go_simp
     with_reducible rfl
    rotate_left
    ·
     simp only [Act.put, List.setIfInBounds_toArray, List.set_cons_zero, List.set_cons_succ, i64_w, i32_w]
     rfl
    refine pure_ (i := 3) (N := some 26) (v := ?_) (a' := ?_) #[true, true, true, true, false, false, false, false, false, false, false, false, false, false, false] rfl rfl (any_of HT_.out (by kernel_rfl)) (fun _ _ _ h => h) (Or.inl ⟨by rfl, ?_⟩) ?_ ?_
    rotate_left
    ·
     intro w'
     go_simp
     with_reducible rfl
    rotate_left
    ·
     simp only [Act.put, List.setIfInBounds_toArray, List.set_cons_zero, List.set_cons_succ, i64_w, i32_w]
     rfl
    refine pure_ (i := 8) (N := some 31) (v := ?_) (a' := ?_) #[true, true, true, true, false, false, false, false, true, false, false, false, false, false, false] rfl rfl (any_of HT_.out (by kernel_rfl)) (fun _ _ _ h => h) (Or.inl ⟨by rfl, ?_⟩) ?_ ?_
    rotate_left
    ·
     intro w'
     go_simp
     with_reducible rfl
    rotate_left
    ·
     simp only [Act.put, List.setIfInBounds_toArray, List.set_cons_zero, List.set_cons_succ, i64_w, i32_w]
     rfl
    refine one_ (i := 4) (N := some 27) #[true, true, true, true, true, false, false, false, true, false, false, false, false, false, false] rfl rfl (one_of HT_.out (by kernel_rfl)) (by decide) (fun K hK => ?_)
    refine goes_ Tryd.func12 (by kernel_rfl) rfl #[.int .i64 a1, .int .i64 (y4015.length : Int)] (by rfl) rfl rfl (by (try simp only [List.map_toArray, List.map_cons, List.map_nil]); first | done | rfl | (simp only [List.length_drop, List.length_take]; rfl)) ?_
    with_reducible refine (customsmade_Within.calls a1 (y4015.length : Int) t4024 _ A24.out).mono ?_
    rintro e w' ⟨rfl, ⟨nd, rfl⟩⟩
    refine ⟨_, rfl, ?_⟩
    refine hK.out _ _ ⟨hHeld.1, hHeld.2⟩ (fun hHeld => ?_)
    clear hK K
    refine norm_ (a' := ?_) ?_ ?_
    rotate_left
    ·
     show Act.put _ (some 27) _ = _
     simp only [Act.put, List.setIfInBounds_toArray, List.set_cons_zero, List.set_cons_succ, i64_w, i32_w]
     rfl
    refine pure_ (i := 5) (N := some 28) (v := ?_) (a' := ?_) #[true, true, true, true, true, true, false, false, true, false, false, false, false, false, false] rfl rfl (any_of HT_.out (by kernel_rfl)) (fun _ _ _ h => h) (Or.inl ⟨by rfl, ?_⟩) ?_ ?_
    rotate_left
    ·
     intro w'
     go_simp
     with_reducible rfl
    rotate_left
    ·
     simp only [Act.put, List.setIfInBounds_toArray, List.set_cons_zero, List.set_cons_succ, i64_w, i32_w]
     rfl
    refine pure_ (i := 6) (N := some 29) (v := ?_) (a' := ?_) #[true, true, true, true, true, true, true, false, true, false, false, false, false, false, false] rfl rfl (any_of HT_.out (by kernel_rfl)) (fun _ _ _ h => h) (Or.inl ⟨by rfl, ?_⟩) ?_ ?_
    rotate_left
    ·
     intro w'
     go_simp
     with_reducible rfl
    rotate_left
    ·
     simp only [Act.put, List.setIfInBounds_toArray, List.set_cons_zero, List.set_cons_succ, i64_w, i32_w]
     rfl
    refine take_ (i := 7) (N := some 30) (v := ?_) (a' := ?_) #[true, true, true, true, true, true, true, true, true, false, false, false, false, false, false] rfl rfl (take_ofW HT_.out HW_.out (by kernel_rfl)) (fun _ _ _ h => h) (Or.inl ⟨by rfl, ?_⟩) hHeld ?_ ?_
    rotate_left
    ·
     rintro w' ⟨s0, s1⟩
     go_simp
     with_reducible rfl
    rotate_left
    ·
     simp only [Act.put, List.setIfInBounds_toArray, List.set_cons_zero, List.set_cons_succ, i64_w, i32_w]
     rfl
    refine one_ (i := 9) (N := some 32) #[true, true, true, true, true, true, true, true, true, true, false, false, false, false, false] rfl rfl (one_of HT_.out (by kernel_rfl)) (by decide) (fun K hK => ?_)
    refine goes_ Tryd.func12 (by kernel_rfl) rfl #[.int .i64 a2, .int .i64 5] (by rfl) rfl rfl (by (try simp only [List.map_toArray, List.map_cons, List.map_nil]); first | done | rfl | (simp only [List.length_drop, List.length_take]; rfl)) ?_
    with_reducible refine (customsmade_Within.calls a2 5 t4026 _ A27.out).mono ?_
    rintro e w' ⟨rfl, ⟨nd, rfl⟩⟩
    refine ⟨_, rfl, ?_⟩
    have p28 : 0 ≤ (t4024 : Int) := of_decide_eq_true (by first | (with_reducible assumption) | assumption)
    have q28 : (t4024 : Int) < ((y4015.length : Int) : Int) := of_decide_eq_true (by first | (with_reducible assumption) | assumption)
    obtain ⟨go28, co28, eo28, gb28, gl28, cl28, HG28⟩ := Kd.R_form HO4017.out (by omega)
    (first | cases eo28 | (injection eo28 with ea_ en_ ec_; (first | subst ea_ | (injection ea_ with ea_; subst ea_)); subst ec_; clear en_))
    have GB28 := Aside0.mk gb28
    have GG28 := Aside0.mk HG28
    clear gb28 gl28 HG28
    (first | simp only [add_plain] at hx4025_0 | skip)
    (first | simp only [add_plain] at hx4025_1 | skip)
    obtain ⟨ce28, hcl28, hM28, hcc28, hfr28⟩ := Kd.R_elem HO4017.out z36 (t4024 : Int) p28 q28
    obtain rfl := k36_openM hM28
    have hx28_0 : World.cell? _ ⟨go28, (t4024 : Int).toNat * 2, none⟩ = some (.string ((rd_T36 y4015 t4024).f0)) := hcc28 0 _ rfl
    have hx28_1 : World.cell? _ ⟨go28, (t4024 : Int).toNat * 2 + 1, none⟩ = some (.int .i64 ((rd_T36 y4015 t4024).f1)) := hcc28 1 _ rfl
    have hf28_0 : World.frozen? _ ⟨go28, (t4024 : Int).toNat * 2, none⟩ = false := hfr28 0
    have hf28_1 : World.frozen? _ ⟨go28, (t4024 : Int).toNat * 2 + 1, none⟩ = false := hfr28 1
    clear hcl28 hcc28 hfr28 hM28
    replace p28 := eq_true p28
    replace q28 := eq_true q28
    obtain ⟨ce30, hcl30, hM30, hcc30, hfr30⟩ := Kd.R_elem HO4017.out z36 (t4024 : Int) (of_decide_eq_true (by first | (with_reducible assumption) | assumption)) (by have h_ : (t4024 : Int) < ((y4015.length : Int) : Int) := of_decide_eq_true (by first | (with_reducible assumption) | assumption); first | exact h_ | (have e_ := (Kd.R_reads' HO4017.out).1; omega) | simpa using h_)
    obtain rfl := k36_openM hM30
    have HP30 := (Kd.R_seg HO4017.out (t4024 : Int) (of_decide_eq_true (by first | (with_reducible assumption) | assumption)) (by have h_ : (t4024 : Int) < ((y4015.length : Int) : Int) := of_decide_eq_true (by first | (with_reducible assumption) | assumption); first | exact h_ | (have e_ := (Kd.R_reads' HO4017.out).1; omega) | simpa using h_) (seg := [.int .i64 (wrap64 (((rd_T36 y4015 t4024).f1) + (wrap64 (t4026 - 2))))]) (j := 1) hcl30 hcc30 (show 2 ≤ 2 from by decide) (x' := (⟨(rd_T36 y4015 t4024).f0, wrap64 (((rd_T36 y4015 t4024).f1) + (wrap64 (t4026 - 2)))⟩ : S36)) (k36_mkM _ _ _ (⟨(rd_T36 y4015 t4024).f0, wrap64 (((rd_T36 y4015 t4024).f1) + (wrap64 (t4026 - 2)))⟩ : S36) ) (fun _ hk => hk)).1
    rw [← Ny4027.out] at HP30
    have HQ30 := Aside0.mk HP30
    (try simp only [World.setCells, show k36.sz = 2 from rfl, show k38.sz = 2 from rfl] at HQ30)
    clear hcl30 hcc30 hfr30 hM30 HP30
    refine hK.out _ _ ⟨hHeld.1, hHeld.2⟩ (fun hHeld => ?_)
    clear hK K
    refine norm_ (a' := ?_) ?_ ?_
    rotate_left
    ·
     show Act.put _ (some 32) _ = _
     simp only [Act.put, List.setIfInBounds_toArray, List.set_cons_zero, List.set_cons_succ, i64_w, i32_w]
     rfl
    refine pure_ (i := 10) (N := some 33) (v := ?_) (a' := ?_) #[true, true, true, true, true, true, true, true, true, true, true, false, false, false, false] rfl rfl (any_of HT_.out (by kernel_rfl)) (fun _ _ _ h => h) (Or.inl ⟨by rfl, ?_⟩) ?_ ?_
    rotate_left
    ·
     intro w'
     go_simp
     with_reducible rfl
    rotate_left
    ·
     simp only [Act.put, List.setIfInBounds_toArray, List.set_cons_zero, List.set_cons_succ, i64_w, i32_w]
     rfl
    refine pure_ (i := 11) (N := some 34) (v := ?_) (a' := ?_) #[true, true, true, true, true, true, true, true, true, true, true, true, false, false, false] rfl rfl (any_of HT_.out (by kernel_rfl)) (fun _ _ _ h => h) (Or.inl ⟨by rfl, ?_⟩) ?_ ?_
    rotate_left
    ·
     intro w'
     go_simp
     with_reducible rfl
    rotate_left
    ·
     simp only [Act.put, List.setIfInBounds_toArray, List.set_cons_zero, List.set_cons_succ, i64_w, i32_w]
     rfl
    refine pure_ (i := 12) (N := some 35) (v := ?_) (a' := ?_) #[true, true, true, true, true, true, true, true, true, true, true, true, true, false, false] rfl rfl (any_of HT_.out (by kernel_rfl)) (fun _ _ _ h => h) (Or.inl ⟨by rfl, ?_⟩) ?_ ?_
    rotate_left
    ·
     intro w'
     go_simp
     with_reducible rfl
    rotate_left
    ·
     simp only [Act.put, List.setIfInBounds_toArray, List.set_cons_zero, List.set_cons_succ, i64_w, i32_w]
     rfl
    refine pure_ (i := 13) (N := some 36) (v := ?_) (a' := ?_) #[true, true, true, true, true, true, true, true, true, true, true, true, true, true, false] rfl rfl (any_of HT_.out (by kernel_rfl)) (fun _ _ _ h => h) (Or.inl ⟨by rfl, ?_⟩) ?_ ?_
    rotate_left
    ·
     intro w'
     go_simp
     with_reducible rfl
    rotate_left
    ·
     simp only [Act.put, List.setIfInBounds_toArray, List.set_cons_zero, List.set_cons_succ, i64_w, i32_w]
     rfl
    refine last_ (i := 14) (N := none) #[true, true, true, true, true, true, true, true, true, true, true, true, true, true, true] rfl rfl (one_of HT_.out (by kernel_rfl)) (by decide) (fun K hK => ?_)
    refine skip_ (w1 := ?_) (by rfl) rfl ?_ ?_
    rotate_left
    ·
     go_simp
     rfl
    refine hK.out _ _ ?_
    clear hK K
    refine done_ (done_of HT_.out (by kernel_rfl)) ?_
    try go_wp2
    go_meet
    case rel => exact ⟨_, (y4027), H', ⟨by first | omega | exact Nat.le_refl _⟩, ⟨Kd.R_ext HQ30.out⟩, ⟨Kd.N_ext (Kd.N_mono (Kd.N_far (p := ⟨go28, (t4024 : Int).toNat * 2 + 1, none⟩) (Kd.N_mono HO4023.out (fun k_ hk => (⟨hk, fun e_ => hk.2.2.1 (by rw [e_]; rfl)⟩ : _ ∧ k_ ≠ go28))) (fun _ hk => hk.2) (.int .i64 (wrap64 (((rd_T36 y4015 t4024).f1) + (wrap64 (t4026 - 2)))))) (fun _ hk => ⟨hk.1.2.2.1, ⟨hk.1.1, ⟨hk.1.2.1, hk.1.2.2.2⟩⟩⟩))⟩, ⟨Kd.R_ext (Kd.R_mono (Kd.R_far (p := ⟨go28, (t4024 : Int).toNat * 2 + 1, none⟩) (Kd.R_types HO4003.out GG28.out (by decide)) (fun _ hk => hk.2) (.int .i64 (wrap64 (((rd_T36 y4015 t4024).f1) + (wrap64 (t4026 - 2)))))) (fun _ hk => trivial))⟩, ⟨Kd.R_ext (Kd.R_mono (Kd.R_far (p := ⟨go28, (t4024 : Int).toNat * 2 + 1, none⟩) (Kd.R_mono HO4006.out (fun k_ hk => (⟨hk, fun e_ => hk.2 (by rw [e_]; rfl)⟩ : _ ∧ k_ ≠ go28))) (fun _ hk => hk.2) (.int .i64 (wrap64 (((rd_T36 y4015 t4024).f1) + (wrap64 (t4026 - 2)))))) (fun _ hk => hk.1.2))⟩, ⟨Kd.N_ext (Kd.N_mono (Kd.N_far (p := ⟨go28, (t4024 : Int).toNat * 2 + 1, none⟩) (Kd.N_mono HO4009.out (fun k_ hk => (⟨hk, fun e_ => hk.1.2.2.1 (by rw [e_]; rfl)⟩ : _ ∧ k_ ≠ go28))) (fun _ hk => hk.2) (.int .i64 (wrap64 (((rd_T36 y4015 t4024).f1) + (wrap64 (t4026 - 2)))))) (fun _ hk => ⟨hk.1.1.2.2.1, ⟨hk.1.2, ⟨hk.1.1.1, ⟨hk.1.1.2.1, hk.1.1.2.2.2⟩⟩⟩⟩))⟩, ⟨by (with_reducible repeat (first | refine blk_drewN ?_ _ | refine blk_drew ?_ | refine blk_alloc ?_ _)); refine blk_far ?_ (by have h_ := Kd.R_ne HO4017.out BK4011.out (by decide); intro e_; exact h_ (by rw [e_]; rfl)) _; exact blk_ext BK4011.out⟩, ⟨by repeat (first | (with_reducible first | exact HB.out | apply bA | apply bN | apply b1 | refine bS ?_ GB28.out | refine bS ?_ GE4011.out) | exact HB.out)⟩⟩
   ·
    rw [if_neg c23] at H
    have c23b0 : decide (0 < (y4015.length : Int)) = false := decide_eq_false c23
    have c23b1 : decide (0 < y4015.length) = false := decide_eq_false (by omega)
    have c23b9 : (0 < y4015.length) = False := eq_false (of_decide_eq_false c23b1)
    clear c23
    (first | rw [c23b0] | (simp only [i64_w, i32_w]; rw [c23b0]) | rw [c23b1] | skip)
    have H' := Aside0.mk H
    clear H
    go_wp2
    go_meet
    case rel => exact ⟨_, (y4015), H', ⟨by first | omega | exact Nat.le_refl _⟩, ⟨Kd.R_ext HO4017.out⟩, ⟨Kd.N_ext (Kd.N_mono HO4023.out (fun _ hk => ⟨hk.2.2.1, ⟨hk.1, ⟨hk.2.1, hk.2.2.2⟩⟩⟩))⟩, ⟨Kd.R_ext HO4003.out⟩, ⟨Kd.R_ext (Kd.R_mono HO4006.out (fun _ hk => hk.2))⟩, ⟨Kd.N_ext (Kd.N_mono HO4009.out (fun _ hk => ⟨hk.1.2.2.1, ⟨hk.2, ⟨hk.1.1, ⟨hk.1.2.1, hk.1.2.2.2⟩⟩⟩⟩))⟩, ⟨blk_ext BK4011.out⟩, ⟨below_extB HB.out⟩⟩
  case rest =>
   clear HC7
   try clear c1
   try clear c2
   try clear p2
   try clear q2
   try clear hx2
   try clear c3
   try clear c4
   try clear p4
   try clear q4
   try clear hx4
   try clear c5
   try clear c6
   try clear p6
   try clear c9
   try clear c12
   try clear c23
   try clear c23b0
   try clear c23b1
   try clear c25
   try clear c25b0
   try clear c26
   try clear c26b0
   try clear c28
   try clear p28
   try clear q28
   try clear hx28
   try clear hf28
   try clear c30
   try clear hcz11_0
   try clear hcz11_1
   try clear hcz11_2
   try clear hcz11_3
   try clear hcz16_0
   try clear hcz16_1
   try clear hcz16_2
   try clear hcz16_3
   try clear hcz20_0
   try clear hcz20_1
   try clear hcz20_2
   try clear hcz20_3
   try clear hfz11_0
   try clear hfz11_1
   try clear hfz11_2
   try clear hfz11_3
   try clear hfz16_0
   try clear hfz16_1
   try clear hfz16_2
   try clear hfz16_3
   try clear hfz20_0
   try clear hfz20_1
   try clear hfz20_2
   try clear hfz20_3
   try clear hx28_0
   try clear hx28_1
   try clear hx4025_0
   try clear hx4025_1
   try clear p28
   try clear p4025
   try clear q28
   try clear q4025
   obtain ⟨kq, x8_6, HA, HJ6, HO_8, HO_9, HO_4012000, HO_4012001, HO_4012002, BK4011, HB⟩ := hcut
   have hl8_6 := (Kd.R_reads' HO_8.out).1
   rw [hl8_6] at HO_8
   (try simp only [hl8_6])
   (try simp only [hl8_6] at BK4011)
   (try simp only [hl8_6] at HO_9)
   (try simp only [hl8_6] at HO_4012000)
   (try simp only [hl8_6] at HO_4012001)
   (try simp only [hl8_6] at HO_4012002)
   cases kq with
   | zero => exact absurd HA.out (by simp [customslaw08_GoodsShares.j0])
   | succ kj6 =>
    have H := HA.out
    clear HA
    simp only [customslaw08_GoodsShares.j0] at H
    by_cases c31 : (y4021.length : Int) > 0
    ·
     rw [if_pos c31] at H
     have c31b0 : decide (0 < (y4021.length : Int)) = true := decide_eq_true c31
     have c31b1 : decide (0 < y4021.length) = true := decide_eq_true (by omega)
     have c31b9 : (0 < y4021.length) = True := eq_true (of_decide_eq_true c31b1)
     clear c31
     replace H := Option.bind_eq_some_iff.mp H
     obtain ⟨t4028, A320, H⟩ := H
     try dsimp only at H
     have A32 := Aside0.mk A320
     clear A320
     replace H := if_some H; obtain ⟨c33, H⟩ := H
     have c33b0 : decide (0 ≤ t4028) = true := decide_eq_true c33
     clear c33
     replace H := if_some H; obtain ⟨c34, H⟩ := H
     have c34b0 : decide (t4028 < (y4021.length : Int)) = true := decide_eq_true c34
     clear c34
     replace H := Option.bind_eq_some_iff.mp H
     obtain ⟨t4030, A350, H⟩ := H
     try dsimp only at H
     have A35 := Aside0.mk A350
     clear A350
     obtain ⟨y4031, hy4031⟩ : ∃ y_ : List (S38), y_ = (y4021.set (t4028 : Int).toNat (⟨(rd_T38 y4021 t4028).f0, wrap64 (((rd_T38 y4021 t4028).f1) + (wrap64 (t4030 - 2)))⟩ : S38)) := ⟨_, rfl⟩
     replace H : ((goods_Validate.f kj6 t4001 x8_6 y4031 t4010).bind fun t4032 => ((customsref08_Good.f kj6 t4001 x8_6 y4031 t4010).bind fun t4033 => (if t4032 = t4033 then ((customslaw08_awake.f kj6).bind fun t4034 => (some t4034)) else (none)))) = some r := by first | (rw [hy4031]; with_reducible exact H) | (have H2_ := (Option.bind_some _ _).symm.trans H; rw [hy4031]; with_reducible exact H2_) | (have H2_ := (Option.bind_some _ _).symm.trans H; with_reducible exact H2_) | with_reducible exact H | (rw [hy4031]; exact H) | exact H
     have Ny4031 := Aside0.mk hy4031
     clear hy4031
     replace H := Option.bind_eq_some_iff.mp H
     obtain ⟨t4032, A370, H⟩ := H
     try dsimp only at H
     have A37 := Aside0.mk A370
     clear A370
     replace H := Option.bind_eq_some_iff.mp H
     obtain ⟨t4033, A380, H⟩ := H
     try dsimp only at H
     have A38 := Aside0.mk A380
     clear A380
     by_cases c39 : t4032 = t4033
     ·
      rw [if_pos c39] at H
      have c39b0 : (t4032 == t4033) = true := beq_iff_eq.mpr c39
      have c39b1 : (t4032 != t4033) = false := bne_eq_false_iff_eq.mpr c39
      clear c39
      replace H := Option.bind_eq_some_iff.mp H
      obtain ⟨t4034, A400, H⟩ := H
      try dsimp only at H
      have A40 := Aside0.mk A400
      clear A400
      obtain rfl := Option.some.inj H
      obtain ⟨Ao41, co41, eo41⟩ := Kd.N_slice HO_9.out
      subst eo41
      try go_wp2
      have n0_ := Aside0.mk (Kd.R_drew HO_8.out)
      have n1_ := Aside0.mk (Kd.N_drew HO_9.out)
      have n2_ := Aside0.mk (Kd.R_drew HO_4012000.out)
      have n3_ := Aside0.mk (Kd.R_drew HO_4012001.out)
      have n4_ := Aside0.mk (Kd.N_drew HO_4012002.out)
      have n5_ := Aside0.mk (blk_drew BK4011.out)
      have n6_ := Aside0.mk (below_drew1 HB.out)
      clear HO_8
      clear HO_9
      clear HO_4012000
      clear HO_4012001
      clear HO_4012002
      clear BK4011
      clear HB
      have HO_8 := n0_
      have HO_9 := n1_
      have HO_4012000 := n2_
      have HO_4012001 := n3_
      have HO_4012002 := n4_
      have BK4011 := n5_
      have HB := n6_
      clear n0_ n1_ n2_ n3_ n4_ n5_ n6_
      have p4029 : 0 ≤ (t4028 : Int) := of_decide_eq_true (by first | (with_reducible assumption) | assumption)
      have q4029 : t4028 < (y4021.length : Int) := of_decide_eq_true (by first | (with_reducible assumption) | assumption)
      obtain ⟨ad4029, A4029_0, c4029_0, e4029, hx4029_0, hx4029_1, hl4029_0, hi4029_0⟩ := at_T38 (Kd.N_reads' HO_9.out).2.2 t4028 p4029 q4029
      cases e4029
      obtain ⟨ce4029, hce4029, hMe4029, hcc4029⟩ := Kd.N_get HO_9.out z38 t4028 p4029 (by first | exact q4029 | exact of_decide_eq_true (by first | (with_reducible assumption) | assumption) | (have e_ := (Kd.N_reads' HO_9.out).1; omega))
      obtain ⟨ua4029_0, uc4029_0, rfl, ul4029_0, ge4029_0⟩ := k38_openF hMe4029
      have hv4029_0 := hcc4029 0 _ rfl
      rw [Nat.add_zero] at hv4029_0
      replace hv4029_0 := Option.some.inj (hv4029_0.symm.trans hx4029_0)
      injection hv4029_0 with hva_ hvn_ hvc_
      rw [hva_] at ge4029_0
      rw [hvc_] at ul4029_0
      have HL4029_0 := Aside0.mk (show Kd.V Kd.string 9 _ w.heap.size _ _ ((rd_T38 y4021 t4028).f0) from Kd.V_mk ul4029_0 ge4029_0)
      clear hva_ hvn_ hvc_ ge4029_0 ul4029_0
      clear hcc4029 hce4029
      have HR4029_0 := Aside0.mk hi4029_0
      have HC4029_0 := Aside0.mk hl4029_0
      clear hi4029_0 hl4029_0
      replace p4029 := eq_true p4029
      replace q4029 := eq_true q4029
      refine start_ (n := 17) (S := fun w' => w'.cell? (ad4029.add ((t4028).toNat * 2)) = some (.slice A4029_0 ((rd_T38 y4021 t4028).f0).length c4029_0) ∧ w'.cell? ⟨(ad4029.add ((t4028).toNat * 2)).block, (ad4029.add ((t4028).toNat * 2)).off + 1, none⟩ = some (.int .i64 ((rd_T38 y4021 t4028).f1))) (ds := [16]) #[false, false, false, false, false, false, false, false, false, false, false, false, false, false, false, false, false] (by kernel_rfl) rfl rfl ⟨hx4029_0, hx4029_1⟩ (fun hHeld => ?_); refine with_tabW customslaw08_GoodsShares.tab7 customslaw08_GoodsShares.bits7 (fun HT_ HW_ => ?_)
      generalize wc.drew = w42 at HO_8 HO_9 HO_4012000 HO_4012001 HO_4012002 BK4011 HB HL4029_0 HR4029_0 hx4029_0 hx4029_1 hHeld ⊢
      refine pure_ (i := 0) (N := some 40) (v := ?_) (a' := ?_) #[true, false, false, false, false, false, false, false, false, false, false, false, false, false, false, false, false] rfl rfl (any_of HT_.out (by kernel_rfl)) (fun _ _ _ h => h) (Or.inl ⟨by rfl, ?_⟩) ?_ ?_
      rotate_left
      ·
       intro w'
       go_simp
       with_reducible rfl
      rotate_left
      ·
       simp only [Act.put, List.setIfInBounds_toArray, List.set_cons_zero, List.set_cons_succ, i64_w, i32_w]
       rfl
      refine pure_ (i := 1) (N := some 41) (v := ?_) (a' := ?_) #[true, true, false, false, false, false, false, false, false, false, false, false, false, false, false, false, false] rfl rfl (any_of HT_.out (by kernel_rfl)) (fun _ _ _ h => h) (Or.inl ⟨by rfl, ?_⟩) ?_ ?_
      rotate_left
      ·
       intro w'
       go_simp
       with_reducible rfl
      rotate_left
      ·
       simp only [Act.put, List.setIfInBounds_toArray, List.set_cons_zero, List.set_cons_succ, i64_w, i32_w]
       rfl
      refine pure_ (i := 2) (N := some 42) (v := ?_) (a' := ?_) #[true, true, true, false, false, false, false, false, false, false, false, false, false, false, false, false, false] rfl rfl (any_of HT_.out (by kernel_rfl)) (fun _ _ _ h => h) (Or.inl ⟨by rfl, ?_⟩) ?_ ?_
      rotate_left
      ·
       intro w'
       go_simp
       with_reducible rfl
      rotate_left
      ·
       simp only [Act.put, List.setIfInBounds_toArray, List.set_cons_zero, List.set_cons_succ, i64_w, i32_w]
       rfl
      refine pure_ (i := 3) (N := some 43) (v := ?_) (a' := ?_) #[true, true, true, true, false, false, false, false, false, false, false, false, false, false, false, false, false] rfl rfl (any_of HT_.out (by kernel_rfl)) (fun _ _ _ h => h) (Or.inl ⟨by rfl, ?_⟩) ?_ ?_
      rotate_left
      ·
       intro w'
       go_simp
       with_reducible rfl
      rotate_left
      ·
       simp only [Act.put, List.setIfInBounds_toArray, List.set_cons_zero, List.set_cons_succ, i64_w, i32_w]
       rfl
      refine pure_ (i := 4) (N := some 44) (v := ?_) (a' := ?_) #[true, true, true, true, true, false, false, false, false, false, false, false, false, false, false, false, false] rfl rfl (any_of HT_.out (by kernel_rfl)) (fun _ _ _ h => h) (Or.inl ⟨by rfl, ?_⟩) ?_ ?_
      rotate_left
      ·
       intro w'
       go_simp
       with_reducible rfl
      rotate_left
      ·
       simp only [Act.put, List.setIfInBounds_toArray, List.set_cons_zero, List.set_cons_succ, i64_w, i32_w]
       rfl
      refine pure_ (i := 9) (N := some 49) (v := ?_) (a' := ?_) #[true, true, true, true, true, false, false, false, false, true, false, false, false, false, false, false, false] rfl rfl (any_of HT_.out (by kernel_rfl)) (fun _ _ _ h => h) (Or.inl ⟨by rfl, ?_⟩) ?_ ?_
      rotate_left
      ·
       intro w'
       go_simp
       with_reducible rfl
      rotate_left
      ·
       simp only [Act.put, List.setIfInBounds_toArray, List.set_cons_zero, List.set_cons_succ, i64_w, i32_w]
       rfl
      refine pure_ (i := 10) (N := some 50) (v := ?_) (a' := ?_) #[true, true, true, true, true, false, false, false, false, true, true, false, false, false, false, false, false] rfl rfl (any_of HT_.out (by kernel_rfl)) (fun _ _ _ h => h) (Or.inl ⟨by rfl, ?_⟩) ?_ ?_
      rotate_left
      ·
       intro w'
       go_simp
       with_reducible rfl
      rotate_left
      ·
       simp only [Act.put, List.setIfInBounds_toArray, List.set_cons_zero, List.set_cons_succ, i64_w, i32_w]
       rfl
      refine one_ (i := 5) (N := some 45) #[true, true, true, true, true, true, false, false, false, true, true, false, false, false, false, false, false] rfl rfl (one_of HT_.out (by kernel_rfl)) (by decide) (fun K hK => ?_)
      refine goes_ Tryd.func12 (by kernel_rfl) rfl #[.int .i64 (a1 / 8), .int .i64 (y4021.length : Int)] (by rfl) rfl rfl (by (try simp only [List.map_toArray, List.map_cons, List.map_nil]); first | done | rfl | (simp only [List.length_drop, List.length_take]; rfl)) ?_
      with_reducible refine (customsmade_Within.calls (a1 / 8) (y4021.length : Int) t4028 _ A32.out).mono ?_
      rintro e w' ⟨rfl, ⟨nd, rfl⟩⟩
      refine ⟨_, rfl, ?_⟩
      refine hK.out _ _ ⟨hHeld.1, hHeld.2⟩ (fun hHeld => ?_)
      clear hK K
      refine norm_ (a' := ?_) ?_ ?_
      rotate_left
      ·
       show Act.put _ (some 45) _ = _
       simp only [Act.put, List.setIfInBounds_toArray, List.set_cons_zero, List.set_cons_succ, i64_w, i32_w]
       rfl
      refine pure_ (i := 6) (N := some 46) (v := ?_) (a' := ?_) #[true, true, true, true, true, true, true, false, false, true, true, false, false, false, false, false, false] rfl rfl (any_of HT_.out (by kernel_rfl)) (fun _ _ _ h => h) (Or.inl ⟨by rfl, ?_⟩) ?_ ?_
      rotate_left
      ·
       intro w'
       go_simp
       with_reducible rfl
      rotate_left
      ·
       simp only [Act.put, List.setIfInBounds_toArray, List.set_cons_zero, List.set_cons_succ, i64_w, i32_w]
       rfl
      refine pure_ (i := 7) (N := some 47) (v := ?_) (a' := ?_) #[true, true, true, true, true, true, true, true, false, true, true, false, false, false, false, false, false] rfl rfl (any_of HT_.out (by kernel_rfl)) (fun _ _ _ h => h) (Or.inl ⟨by rfl, ?_⟩) ?_ ?_
      rotate_left
      ·
       intro w'
       go_simp
       with_reducible rfl
      rotate_left
      ·
       simp only [Act.put, List.setIfInBounds_toArray, List.set_cons_zero, List.set_cons_succ, i64_w, i32_w]
       rfl
      refine take_ (i := 8) (N := some 48) (v := ?_) (a' := ?_) #[true, true, true, true, true, true, true, true, true, true, true, false, false, false, false, false, false] rfl rfl (take_ofW HT_.out HW_.out (by kernel_rfl)) (fun _ _ _ h => h) (Or.inl ⟨by rfl, ?_⟩) hHeld ?_ ?_
      rotate_left
      ·
       rintro w' ⟨s0, s1⟩
       go_simp
       with_reducible rfl
      rotate_left
      ·
       simp only [Act.put, List.setIfInBounds_toArray, List.set_cons_zero, List.set_cons_succ, i64_w, i32_w]
       rfl
      refine one_ (i := 11) (N := some 51) #[true, true, true, true, true, true, true, true, true, true, true, true, false, false, false, false, false] rfl rfl (one_of HT_.out (by kernel_rfl)) (by decide) (fun K hK => ?_)
      refine goes_ Tryd.func12 (by kernel_rfl) rfl #[.int .i64 (a2 / 8), .int .i64 5] (by rfl) rfl rfl (by (try simp only [List.map_toArray, List.map_cons, List.map_nil]); first | done | rfl | (simp only [List.length_drop, List.length_take]; rfl)) ?_
      with_reducible refine (customsmade_Within.calls (a2 / 8) 5 t4030 _ A35.out).mono ?_
      rintro e w' ⟨rfl, ⟨nd, rfl⟩⟩
      refine ⟨_, rfl, ?_⟩
      have p36 : 0 ≤ (t4028 : Int) := of_decide_eq_true (by first | (with_reducible assumption) | assumption)
      have q36 : (t4028 : Int) < ((y4021.length : Int) : Int) := of_decide_eq_true (by first | (with_reducible assumption) | assumption)
      obtain ⟨go36, co36, eo36, gb36, gl36, cl36, HG36⟩ := Kd.N_form HO_9.out (by omega)
      (first | cases eo36 | (injection eo36 with ea_ en_ ec_; (first | subst ea_ | (injection ea_ with ea_; subst ea_)); subst ec_; clear en_))
      have GB36 := Aside0.mk gb36
      have GG36 := Aside0.mk HG36
      clear gb36 gl36 HG36
      (first | simp only [add_plain] at hx4029_0 | skip)
      (first | simp only [add_plain] at hx4029_1 | skip)
      obtain ⟨ce36, hcl36, hM36, hcc36, hfr36⟩ := Kd.N_elem HO_9.out z38 (t4028 : Int) p36 q36
      obtain ⟨ua36_0, uc36_0, rfl, ul36_0, ge36_0⟩ := k38_openF hM36
      have hx36_0 : World.cell? _ ⟨go36, (t4028 : Int).toNat * 2, none⟩ = some (.slice ua36_0 ((rd_T38 y4021 t4028).f0).length uc36_0) := hcc36 0 _ rfl
      have hx36_1 : World.cell? _ ⟨go36, (t4028 : Int).toNat * 2 + 1, none⟩ = some (.int .i64 ((rd_T38 y4021 t4028).f1)) := hcc36 1 _ rfl
      have hf36_0 : World.frozen? _ ⟨go36, (t4028 : Int).toNat * 2, none⟩ = false := hfr36 0
      have hf36_1 : World.frozen? _ ⟨go36, (t4028 : Int).toNat * 2 + 1, none⟩ = false := hfr36 1
      clear hcl36 hcc36 hfr36 hM36
      replace p36 := eq_true p36
      replace q36 := eq_true q36
      have HX43 := Aside0.mk (show Kd.N k38 38 _ w.heap.size (fun k_ => some k_ ≠ (.slice Ao22 x8_6.length co22 : Value).ownBlock ∧ some k_ ≠ (.slice Ao10 t4001.length co10 : Value).ownBlock ∧ some k_ ≠ (.slice Ao12 t4004.length co12 : Value).ownBlock ∧ k_ ≠ gb4011) (.slice (some ⟨go36, 0, none⟩) y4021.length co41) y4021 from (Kd.N_mono (HO_9.out) (fun k_ hk => ⟨hk.1, ⟨hk.2.1, ⟨hk.2.2.1, hk.2.2.2⟩⟩⟩)))
      obtain ⟨ce43, hcl43, hM43, hcc43, hfr43⟩ := Kd.N_elem HX43.out z38 (t4028 : Int) (of_decide_eq_true (by first | (with_reducible assumption) | assumption)) (by have h_ : (t4028 : Int) < ((y4021.length : Int) : Int) := of_decide_eq_true (by first | (with_reducible assumption) | assumption); first | exact h_ | (have e_ := (Kd.N_reads' HO_9.out).1; omega) | simpa using h_)
      obtain ⟨ua43_0, uc43_0, rfl, ul43_0, ge43_0⟩ := k38_openF hM43
      have HP43 := (Kd.N_seg HX43.out (t4028 : Int) (of_decide_eq_true (by first | (with_reducible assumption) | assumption)) (by have h_ : (t4028 : Int) < ((y4021.length : Int) : Int) := of_decide_eq_true (by first | (with_reducible assumption) | assumption); first | exact h_ | (have e_ := (Kd.N_reads' HO_9.out).1; omega) | simpa using h_) (seg := [.int .i64 (wrap64 (((rd_T38 y4021 t4028).f1) + (wrap64 (t4030 - 2))))]) (j := 1) hcl43 hcc43 (show 2 ≤ 2 from by decide) (x' := (⟨(rd_T38 y4021 t4028).f0, wrap64 (((rd_T38 y4021 t4028).f1) + (wrap64 (t4030 - 2)))⟩ : S38)) (k38_mkF _ _ (⟨(rd_T38 y4021 t4028).f0, wrap64 (((rd_T38 y4021 t4028).f1) + (wrap64 (t4030 - 2)))⟩ : S38) ul43_0 ge43_0) (fun _ hk => hk)).1
      rw [← Ny4031.out] at HP43
      have HQ43 := Aside0.mk HP43
      (try simp only [World.setCells, show k36.sz = 2 from rfl, show k38.sz = 2 from rfl] at HQ43)
      clear hcl43 hcc43 hfr43 hM43 HP43
      refine hK.out _ _ ⟨hHeld.1, hHeld.2⟩ (fun hHeld => ?_)
      clear hK K
      refine norm_ (a' := ?_) ?_ ?_
      rotate_left
      ·
       show Act.put _ (some 51) _ = _
       simp only [Act.put, List.setIfInBounds_toArray, List.set_cons_zero, List.set_cons_succ, i64_w, i32_w]
       rfl
      refine pure_ (i := 12) (N := some 52) (v := ?_) (a' := ?_) #[true, true, true, true, true, true, true, true, true, true, true, true, true, false, false, false, false] rfl rfl (any_of HT_.out (by kernel_rfl)) (fun _ _ _ h => h) (Or.inl ⟨by rfl, ?_⟩) ?_ ?_
      rotate_left
      ·
       intro w'
       go_simp
       with_reducible rfl
      rotate_left
      ·
       simp only [Act.put, List.setIfInBounds_toArray, List.set_cons_zero, List.set_cons_succ, i64_w, i32_w]
       rfl
      refine pure_ (i := 13) (N := some 53) (v := ?_) (a' := ?_) #[true, true, true, true, true, true, true, true, true, true, true, true, true, true, false, false, false] rfl rfl (any_of HT_.out (by kernel_rfl)) (fun _ _ _ h => h) (Or.inl ⟨by rfl, ?_⟩) ?_ ?_
      rotate_left
      ·
       intro w'
       go_simp
       with_reducible rfl
      rotate_left
      ·
       simp only [Act.put, List.setIfInBounds_toArray, List.set_cons_zero, List.set_cons_succ, i64_w, i32_w]
       rfl
      refine pure_ (i := 14) (N := some 54) (v := ?_) (a' := ?_) #[true, true, true, true, true, true, true, true, true, true, true, true, true, true, true, false, false] rfl rfl (any_of HT_.out (by kernel_rfl)) (fun _ _ _ h => h) (Or.inl ⟨by rfl, ?_⟩) ?_ ?_
      rotate_left
      ·
       intro w'
       go_simp
       with_reducible rfl
      rotate_left
      ·
       simp only [Act.put, List.setIfInBounds_toArray, List.set_cons_zero, List.set_cons_succ, i64_w, i32_w]
       rfl
      refine pure_ (i := 15) (N := some 55) (v := ?_) (a' := ?_) #[true, true, true, true, true, true, true, true, true, true, true, true, true, true, true, true, false] rfl rfl (any_of HT_.out (by kernel_rfl)) (fun _ _ _ h => h) (Or.inl ⟨by rfl, ?_⟩) ?_ ?_
      rotate_left
      ·
       intro w'
       go_simp
       with_reducible rfl
      rotate_left
      ·
       simp only [Act.put, List.setIfInBounds_toArray, List.set_cons_zero, List.set_cons_succ, i64_w, i32_w]
       rfl
      refine last_ (i := 16) (N := none) #[true, true, true, true, true, true, true, true, true, true, true, true, true, true, true, true, true] rfl rfl (one_of HT_.out (by kernel_rfl)) (by decide) (fun K hK => ?_)
      refine skip_ (w1 := ?_) (by rfl) rfl ?_ ?_
      rotate_left
      ·
       go_simp
       rfl
      refine hK.out _ _ ?_
      clear hK K
      refine done_ (done_of HT_.out (by kernel_rfl)) ?_
      (try simp only [setCell_drewN])
      have n0_ : Aside0 (Kd.R k36 36 (w42.setCell ⟨go36, (t4028 : Int).toNat * 2 + 1, none⟩ (.int .i64 (wrap64 (((rd_T38 y4021 t4028).f1) + (wrap64 (t4030 - 2)))))) w.heap.size (fun k_ => some k_ ≠ (.slice Ao12 t4004.length co12 : Value).ownBlock) (.slice Ao22 x8_6.length co22) x8_6) := ⟨Kd.R_ext (Kd.R_mono (Kd.R_far (p := ⟨go36, (t4028 : Int).toNat * 2 + 1, none⟩) (Kd.R_types HO_8.out GG36.out (by decide)) (fun _ hk => hk.2) (.int .i64 (wrap64 (((rd_T38 y4021 t4028).f1) + (wrap64 (t4030 - 2)))))) (fun _ hk => hk.1))⟩
      have n1_ : Aside0 (Kd.N k38 38 (w42.setCell ⟨go36, (t4028 : Int).toNat * 2 + 1, none⟩ (.int .i64 (wrap64 (((rd_T38 y4021 t4028).f1) + (wrap64 (t4030 - 2)))))) w.heap.size (fun k_ => some k_ ≠ (.slice Ao22 x8_6.length co22 : Value).ownBlock ∧ some k_ ≠ (.slice Ao10 t4001.length co10 : Value).ownBlock ∧ some k_ ≠ (.slice Ao12 t4004.length co12 : Value).ownBlock ∧ k_ ≠ gb4011) (.slice (some ⟨go36, 0, none⟩) y4021.length co41) y4031) := ⟨Kd.N_ext HQ43.out⟩
      have n2_ : Aside0 (Kd.R Kd.string 9 (w42.setCell ⟨go36, (t4028 : Int).toNat * 2 + 1, none⟩ (.int .i64 (wrap64 (((rd_T38 y4021 t4028).f1) + (wrap64 (t4030 - 2)))))) w.heap.size (fun _ => True) (.slice Ao10 t4001.length co10) t4001) := ⟨Kd.R_ext (Kd.R_mono (Kd.R_far (p := ⟨go36, (t4028 : Int).toNat * 2 + 1, none⟩) (Kd.R_types HO_4012000.out GG36.out (by decide)) (fun _ hk => hk.2) (.int .i64 (wrap64 (((rd_T38 y4021 t4028).f1) + (wrap64 (t4030 - 2)))))) (fun _ hk => trivial))⟩
      have n3_ : Aside0 (Kd.R k36 36 (w42.setCell ⟨go36, (t4028 : Int).toNat * 2 + 1, none⟩ (.int .i64 (wrap64 (((rd_T38 y4021 t4028).f1) + (wrap64 (t4030 - 2)))))) w.heap.size (fun k_ => some k_ ≠ (.slice Ao22 x8_6.length co22 : Value).ownBlock) (.slice Ao12 t4004.length co12) t4004) := ⟨Kd.R_ext (Kd.R_mono (Kd.R_far (p := ⟨go36, (t4028 : Int).toNat * 2 + 1, none⟩) (Kd.R_types HO_4012001.out GG36.out (by decide)) (fun _ hk => hk.2) (.int .i64 (wrap64 (((rd_T38 y4021 t4028).f1) + (wrap64 (t4030 - 2)))))) (fun _ hk => hk.1))⟩
      have n4_ : Aside0 (Kd.N k38 38 (w42.setCell ⟨go36, (t4028 : Int).toNat * 2 + 1, none⟩ (.int .i64 (wrap64 (((rd_T38 y4021 t4028).f1) + (wrap64 (t4030 - 2)))))) w.heap.size (fun k_ => some k_ ≠ (.slice Ao22 x8_6.length co22 : Value).ownBlock ∧ some k_ ≠ (.slice (some ⟨go36, 0, none⟩) y4021.length co41 : Value).ownBlock ∧ some k_ ≠ (.slice Ao10 t4001.length co10 : Value).ownBlock ∧ some k_ ≠ (.slice Ao12 t4004.length co12 : Value).ownBlock ∧ k_ ≠ gb4011) (.slice Ao13 t4007.length co13) t4007) := ⟨Kd.N_ext (Kd.N_mono (Kd.N_far (p := ⟨go36, (t4028 : Int).toNat * 2 + 1, none⟩) (Kd.N_mono HO_4012002.out (fun k_ hk => (⟨hk, fun e_ => hk.2.1 (by rw [e_]; rfl)⟩ : _ ∧ k_ ≠ go36))) (fun _ hk => hk.2) (.int .i64 (wrap64 (((rd_T38 y4021 t4028).f1) + (wrap64 (t4030 - 2)))))) (fun _ hk => ⟨hk.1.1, ⟨hk.1.2.1, ⟨hk.1.2.2.1, ⟨hk.1.2.2.2.1, hk.1.2.2.2.2⟩⟩⟩⟩))⟩
      have n5_ : Aside0 (Kd.V Kd.string 9 (w42.setCell ⟨go36, (t4028 : Int).toNat * 2 + 1, none⟩ (.int .i64 (wrap64 (((rd_T38 y4021 t4028).f1) + (wrap64 (t4030 - 2)))))) w.heap.size (fun k_ => some k_ ≠ (.slice Ao22 x8_6.length co22 : Value).ownBlock ∧ some k_ ≠ (.slice (some ⟨go36, 0, none⟩) y4021.length co41 : Value).ownBlock ∧ some k_ ≠ (.slice Ao10 t4001.length co10 : Value).ownBlock ∧ some k_ ≠ (.slice Ao12 t4004.length co12 : Value).ownBlock ∧ k_ ≠ gb4011) (.slice A4029_0 ((rd_T38 y4021 t4028).f0).length c4029_0) ((rd_T38 y4021 t4028).f0)) := ⟨Kd.V_ext (Kd.V_mono (Kd.V_far (p := ⟨go36, (t4028 : Int).toNat * 2 + 1, none⟩) (Kd.V_mono HL4029_0.out (fun k_ hk => (⟨hk, fun e_ => hk.2 (by rw [e_]; rfl)⟩ : _ ∧ k_ ≠ go36))) (fun _ hk => hk.2) (.int .i64 (wrap64 (((rd_T38 y4021 t4028).f1) + (wrap64 (t4030 - 2)))))) (fun _ hk => ⟨hk.1.1.1, ⟨hk.1.2, ⟨hk.1.1.2.1, ⟨hk.1.1.2.2.1, hk.1.1.2.2.2⟩⟩⟩⟩))⟩
      have n6_ : Aside0 ((w42.setCell ⟨go36, (t4028 : Int).toNat * 2 + 1, none⟩ (.int .i64 (wrap64 (((rd_T38 y4021 t4028).f1) + (wrap64 (t4030 - 2)))))).heap[gb4011]? = some (.cells #[.slice Ao10 t4001.length co10, .slice Ao12 t4004.length co12, .slice Ao13 t4007.length co13, .bool t4010] 26 (0, 0))) := ⟨by (with_reducible repeat (first | refine blk_drewN ?_ _ | refine blk_drew ?_ | refine blk_alloc ?_ _)); refine blk_far ?_ (by have h_ := Kd.N_away HO_9.out (fun _ hk => hk.2.2.2); intro e_; exact h_ (by rw [e_]; rfl)) _; exact blk_ext BK4011.out⟩
      have n7_ : Aside0 (Below w.heap.size w (w42.setCell ⟨go36, (t4028 : Int).toNat * 2 + 1, none⟩ (.int .i64 (wrap64 (((rd_T38 y4021 t4028).f1) + (wrap64 (t4030 - 2))))))) := ⟨by repeat (first | (with_reducible first | exact HB.out | apply bA | apply bN | apply b1 | refine bS ?_ GB36.out | refine bS ?_ GE4011.out) | exact HB.out)⟩
      (try clear HO_8)
      (try clear HO_9)
      (try clear HO_4012000)
      (try clear HO_4012001)
      (try clear HO_4012002)
      (try clear HL4029_0)
      (try clear BK4011)
      (try clear HB)
      generalize (w42.setCell ⟨go36, (t4028 : Int).toNat * 2 + 1, none⟩ (.int .i64 (wrap64 (((rd_T38 y4021 t4028).f1) + (wrap64 (t4030 - 2)))))) = w44 at n0_ n1_ n2_ n3_ n4_ n5_ n6_ n7_ ⊢
      have HO_8 := n0_
      have HO_9 := n1_
      have HO_4012000 := n2_
      have HO_4012001 := n3_
      have HO_4012002 := n4_
      have HL4029_0 := n5_
      have BK4011 := n6_
      have HB := n7_
      clear n0_ n1_ n2_ n3_ n4_ n5_ n6_ n7_
      (try (rw [drewN_self w44]; generalize hq_ : World.drewN w44 _ = w44; have n0_ := Aside0.mk (Kd.R_at hq_ HO_8.out); have n1_ := Aside0.mk (Kd.N_at hq_ HO_9.out); have n2_ := Aside0.mk (Kd.R_at hq_ HO_4012000.out); have n3_ := Aside0.mk (Kd.R_at hq_ HO_4012001.out); have n4_ := Aside0.mk (Kd.N_at hq_ HO_4012002.out); have n5_ := Aside0.mk (Kd.V_at hq_ HL4029_0.out); have n6_ := Aside0.mk (blk_at hq_ BK4011.out); have n7_ := Aside0.mk (below_at hq_ HB.out); clear hq_ HO_8 HO_9 HO_4012000 HO_4012001 HO_4012002 HL4029_0 BK4011 HB; have HO_8 := n0_; have HO_9 := n1_; have HO_4012000 := n2_; have HO_4012001 := n3_; have HO_4012002 := n4_; have HL4029_0 := n5_; have BK4011 := n6_; have HB := n7_; clear n0_ n1_ n2_ n3_ n4_ n5_ n6_ n7_))
      have hcz45_0 : w44.cell? ⟨gb4011, 0, none⟩ = some (.slice Ao10 t4001.length co10) := (blk_cell BK4011.out 0).trans rfl
      have hcz45_1 : w44.cell? ⟨gb4011, 1, none⟩ = some (.slice Ao12 t4004.length co12) := (blk_cell BK4011.out 1).trans rfl
      have hcz45_2 : w44.cell? ⟨gb4011, 2, none⟩ = some (.slice Ao13 t4007.length co13) := (blk_cell BK4011.out 2).trans rfl
      have hcz45_3 : w44.cell? ⟨gb4011, 3, none⟩ = some (.bool t4010) := (blk_cell BK4011.out 3).trans rfl
      have hfz45_0 := blk_frozen BK4011.out 0
      have hfz45_1 := blk_frozen BK4011.out 1
      have hfz45_2 := blk_frozen BK4011.out 2
      have hfz45_3 := blk_frozen BK4011.out 3
      try go_wp2
      (try simp only [setCell_drewN])
      have n0_ : Aside0 (Kd.R k36 36 ((w44.setCell ⟨gb4011, 1, none⟩ (.slice Ao22 x8_6.length co22)).setCell ⟨gb4011, 2, none⟩ (.slice (some ⟨go36, 0, none⟩) y4021.length co41)) w.heap.size (fun k_ => some k_ ≠ (.slice Ao12 t4004.length co12 : Value).ownBlock) (.slice Ao22 x8_6.length co22) x8_6) := ⟨Kd.R_ext (Kd.R_mono (Kd.R_far (p := ⟨gb4011, 2, none⟩) (Kd.R_far (p := ⟨gb4011, 1, none⟩) (Kd.R_types HO_8.out BK4011.out (by decide)) (fun _ hk => hk.2) (.slice Ao22 x8_6.length co22)) (fun _ hk => hk.2) (.slice (some ⟨go36, 0, none⟩) y4021.length co41)) (fun _ hk => hk.1))⟩
      have n1_ : Aside0 (Kd.N k38 38 ((w44.setCell ⟨gb4011, 1, none⟩ (.slice Ao22 x8_6.length co22)).setCell ⟨gb4011, 2, none⟩ (.slice (some ⟨go36, 0, none⟩) y4021.length co41)) w.heap.size (fun k_ => some k_ ≠ (.slice Ao22 x8_6.length co22 : Value).ownBlock ∧ some k_ ≠ (.slice Ao10 t4001.length co10 : Value).ownBlock ∧ some k_ ≠ (.slice Ao12 t4004.length co12 : Value).ownBlock ∧ k_ ≠ gb4011) (.slice (some ⟨go36, 0, none⟩) y4021.length co41) y4031) := ⟨Kd.N_ext (Kd.N_mono (Kd.N_far (p := ⟨gb4011, 2, none⟩) (Kd.N_far (p := ⟨gb4011, 1, none⟩) (Kd.N_mono HO_9.out (fun k_ hk => (⟨hk, hk.2.2.2⟩ : _ ∧ k_ ≠ gb4011))) (fun _ hk => hk.2) (.slice Ao22 x8_6.length co22)) (fun _ hk => hk.2) (.slice (some ⟨go36, 0, none⟩) y4021.length co41)) (fun _ hk => ⟨hk.1.1, ⟨hk.1.2.1, ⟨hk.1.2.2.1, hk.1.2.2.2⟩⟩⟩))⟩
      have n2_ : Aside0 (Kd.R Kd.string 9 ((w44.setCell ⟨gb4011, 1, none⟩ (.slice Ao22 x8_6.length co22)).setCell ⟨gb4011, 2, none⟩ (.slice (some ⟨go36, 0, none⟩) y4021.length co41)) w.heap.size (fun _ => True) (.slice Ao10 t4001.length co10) t4001) := ⟨Kd.R_ext (Kd.R_mono (Kd.R_far (p := ⟨gb4011, 2, none⟩) (Kd.R_far (p := ⟨gb4011, 1, none⟩) (Kd.R_types HO_4012000.out BK4011.out (by decide)) (fun _ hk => hk.2) (.slice Ao22 x8_6.length co22)) (fun _ hk => hk.2) (.slice (some ⟨go36, 0, none⟩) y4021.length co41)) (fun _ hk => trivial))⟩
      have n3_ : Aside0 (Kd.R k36 36 ((w44.setCell ⟨gb4011, 1, none⟩ (.slice Ao22 x8_6.length co22)).setCell ⟨gb4011, 2, none⟩ (.slice (some ⟨go36, 0, none⟩) y4021.length co41)) w.heap.size (fun k_ => some k_ ≠ (.slice Ao22 x8_6.length co22 : Value).ownBlock) (.slice Ao12 t4004.length co12) t4004) := ⟨Kd.R_ext (Kd.R_mono (Kd.R_far (p := ⟨gb4011, 2, none⟩) (Kd.R_far (p := ⟨gb4011, 1, none⟩) (Kd.R_types HO_4012001.out BK4011.out (by decide)) (fun _ hk => hk.2) (.slice Ao22 x8_6.length co22)) (fun _ hk => hk.2) (.slice (some ⟨go36, 0, none⟩) y4021.length co41)) (fun _ hk => hk.1))⟩
      have n4_ : Aside0 (Kd.N k38 38 ((w44.setCell ⟨gb4011, 1, none⟩ (.slice Ao22 x8_6.length co22)).setCell ⟨gb4011, 2, none⟩ (.slice (some ⟨go36, 0, none⟩) y4021.length co41)) w.heap.size (fun k_ => some k_ ≠ (.slice Ao22 x8_6.length co22 : Value).ownBlock ∧ some k_ ≠ (.slice (some ⟨go36, 0, none⟩) y4021.length co41 : Value).ownBlock ∧ some k_ ≠ (.slice Ao10 t4001.length co10 : Value).ownBlock ∧ some k_ ≠ (.slice Ao12 t4004.length co12 : Value).ownBlock ∧ k_ ≠ gb4011) (.slice Ao13 t4007.length co13) t4007) := ⟨Kd.N_ext (Kd.N_mono (Kd.N_far (p := ⟨gb4011, 2, none⟩) (Kd.N_far (p := ⟨gb4011, 1, none⟩) (Kd.N_mono HO_4012002.out (fun k_ hk => (⟨hk, hk.2.2.2.2⟩ : _ ∧ k_ ≠ gb4011))) (fun _ hk => hk.2) (.slice Ao22 x8_6.length co22)) (fun _ hk => hk.2) (.slice (some ⟨go36, 0, none⟩) y4021.length co41)) (fun _ hk => ⟨hk.1.1, ⟨hk.1.2.1, ⟨hk.1.2.2.1, ⟨hk.1.2.2.2.1, hk.1.2.2.2.2⟩⟩⟩⟩))⟩
      have n5_ : Aside0 (Kd.V Kd.string 9 ((w44.setCell ⟨gb4011, 1, none⟩ (.slice Ao22 x8_6.length co22)).setCell ⟨gb4011, 2, none⟩ (.slice (some ⟨go36, 0, none⟩) y4021.length co41)) w.heap.size (fun k_ => some k_ ≠ (.slice Ao22 x8_6.length co22 : Value).ownBlock ∧ some k_ ≠ (.slice (some ⟨go36, 0, none⟩) y4021.length co41 : Value).ownBlock ∧ some k_ ≠ (.slice Ao10 t4001.length co10 : Value).ownBlock ∧ some k_ ≠ (.slice Ao12 t4004.length co12 : Value).ownBlock ∧ k_ ≠ gb4011) (.slice A4029_0 ((rd_T38 y4021 t4028).f0).length c4029_0) ((rd_T38 y4021 t4028).f0)) := ⟨Kd.V_ext (Kd.V_mono (Kd.V_far (p := ⟨gb4011, 2, none⟩) (Kd.V_far (p := ⟨gb4011, 1, none⟩) (Kd.V_mono HL4029_0.out (fun k_ hk => (⟨hk, hk.2.2.2.2⟩ : _ ∧ k_ ≠ gb4011))) (fun _ hk => hk.2) (.slice Ao22 x8_6.length co22)) (fun _ hk => hk.2) (.slice (some ⟨go36, 0, none⟩) y4021.length co41)) (fun _ hk => ⟨hk.1.1, ⟨hk.1.2.1, ⟨hk.1.2.2.1, ⟨hk.1.2.2.2.1, hk.1.2.2.2.2⟩⟩⟩⟩))⟩
      have n6_ : Aside0 (((w44.setCell ⟨gb4011, 1, none⟩ (.slice Ao22 x8_6.length co22)).setCell ⟨gb4011, 2, none⟩ (.slice (some ⟨go36, 0, none⟩) y4021.length co41)).heap[gb4011]? = some (.cells #[.slice Ao10 t4001.length co10, .slice Ao22 x8_6.length co22, .slice (some ⟨go36, 0, none⟩) y4021.length co41, .bool t4010] 26 (0, 0))) := ⟨by (with_reducible repeat (first | refine blk_drewN ?_ _ | refine blk_drew ?_ | refine blk_alloc ?_ _)); refine blk_put (cs := #[.slice Ao10 t4001.length co10, .slice Ao22 x8_6.length co22, .slice Ao13 t4007.length co13, .bool t4010]) ?_ 2 _ rfl; (with_reducible repeat (first | refine blk_drewN ?_ _ | refine blk_drew ?_ | refine blk_alloc ?_ _)); refine blk_put (cs := #[.slice Ao10 t4001.length co10, .slice Ao12 t4004.length co12, .slice Ao13 t4007.length co13, .bool t4010]) ?_ 1 _ rfl; exact blk_ext BK4011.out⟩
      have n7_ : Aside0 (Below w.heap.size w ((w44.setCell ⟨gb4011, 1, none⟩ (.slice Ao22 x8_6.length co22)).setCell ⟨gb4011, 2, none⟩ (.slice (some ⟨go36, 0, none⟩) y4021.length co41))) := ⟨below_extB HB.out⟩
      (try clear HO_8)
      (try clear HO_9)
      (try clear HO_4012000)
      (try clear HO_4012001)
      (try clear HO_4012002)
      (try clear HL4029_0)
      (try clear BK4011)
      (try clear HB)
      generalize ((w44.setCell ⟨gb4011, 1, none⟩ (.slice Ao22 x8_6.length co22)).setCell ⟨gb4011, 2, none⟩ (.slice (some ⟨go36, 0, none⟩) y4021.length co41)) = w46 at n0_ n1_ n2_ n3_ n4_ n5_ n6_ n7_ ⊢
      have HO_8 := n0_
      have HO_9 := n1_
      have HO_4012000 := n2_
      have HO_4012001 := n3_
      have HO_4012002 := n4_
      have HL4029_0 := n5_
      have BK4011 := n6_
      have HB := n7_
      clear n0_ n1_ n2_ n3_ n4_ n5_ n6_ n7_
      (try (rw [drewN_self w46]; generalize hq_ : World.drewN w46 _ = w46; have n0_ := Aside0.mk (Kd.R_at hq_ HO_8.out); have n1_ := Aside0.mk (Kd.N_at hq_ HO_9.out); have n2_ := Aside0.mk (Kd.R_at hq_ HO_4012000.out); have n3_ := Aside0.mk (Kd.R_at hq_ HO_4012001.out); have n4_ := Aside0.mk (Kd.N_at hq_ HO_4012002.out); have n5_ := Aside0.mk (Kd.V_at hq_ HL4029_0.out); have n6_ := Aside0.mk (blk_at hq_ BK4011.out); have n7_ := Aside0.mk (below_at hq_ HB.out); clear hq_ HO_8 HO_9 HO_4012000 HO_4012001 HO_4012002 HL4029_0 BK4011 HB; have HO_8 := n0_; have HO_9 := n1_; have HO_4012000 := n2_; have HO_4012001 := n3_; have HO_4012002 := n4_; have HL4029_0 := n5_; have BK4011 := n6_; have HB := n7_; clear n0_ n1_ n2_ n3_ n4_ n5_ n6_ n7_))
      (try (rw [drewN_self w46]; generalize hq_ : World.drewN w46 _ = w46; have n0_ : Aside0 (Kd.V Kd.string 9 w46 w.heap.size (fun k_ => some k_ ≠ (.slice Ao10 t4001.length co10 : Value).ownBlock ∧ some k_ ≠ (.slice Ao12 t4004.length co12 : Value).ownBlock ∧ some k_ ≠ (.slice Ao22 x8_6.length co22 : Value).ownBlock ∧ some k_ ≠ (.slice (some ⟨go36, 0, none⟩) y4021.length co41 : Value).ownBlock ∧ k_ ≠ gb4011) (.slice A4029_0 ((rd_T38 y4021 t4028).f0).length c4029_0) ((rd_T38 y4021 t4028).f0)) := ⟨by rw [← hq_]; exact (Kd.V_ext (Kd.V_mono HL4029_0.out (fun _ hk => ⟨hk.2.2.1, ⟨hk.2.2.2.1, ⟨hk.1, ⟨hk.2.1, hk.2.2.2.2⟩⟩⟩⟩)))⟩; have n1_ : Aside0 (Kd.R Kd.string 9 w46 w.heap.size (fun _ => True) (.slice Ao10 t4001.length co10) t4001) := ⟨by rw [← hq_]; exact (Kd.R_ext HO_4012000.out)⟩; have n2_ : Aside0 (Kd.R k36 36 w46 w.heap.size (fun k_ => some k_ ≠ (.slice Ao22 x8_6.length co22 : Value).ownBlock) (.slice Ao12 t4004.length co12) t4004) := ⟨by rw [← hq_]; exact (Kd.R_ext HO_4012001.out)⟩; have n3_ : Aside0 (Kd.N k38 38 w46 w.heap.size (fun k_ => some k_ ≠ (.slice Ao10 t4001.length co10 : Value).ownBlock ∧ some k_ ≠ (.slice Ao12 t4004.length co12 : Value).ownBlock ∧ some k_ ≠ (.slice Ao22 x8_6.length co22 : Value).ownBlock ∧ some k_ ≠ (.slice (some ⟨go36, 0, none⟩) y4021.length co41 : Value).ownBlock ∧ k_ ≠ gb4011) (.slice Ao13 t4007.length co13) t4007) := ⟨by rw [← hq_]; exact (Kd.N_ext (Kd.N_mono HO_4012002.out (fun _ hk => ⟨hk.2.2.1, ⟨hk.2.2.2.1, ⟨hk.1, ⟨hk.2.1, hk.2.2.2.2⟩⟩⟩⟩)))⟩; have n4_ : Aside0 (Kd.R k36 36 w46 w.heap.size (fun k_ => some k_ ≠ (.slice Ao12 t4004.length co12 : Value).ownBlock) (.slice Ao22 x8_6.length co22) x8_6) := ⟨by rw [← hq_]; exact (Kd.R_ext HO_8.out)⟩; have n5_ : Aside0 (Kd.N k38 38 w46 w.heap.size (fun k_ => some k_ ≠ (.slice Ao10 t4001.length co10 : Value).ownBlock ∧ some k_ ≠ (.slice Ao12 t4004.length co12 : Value).ownBlock ∧ some k_ ≠ (.slice Ao22 x8_6.length co22 : Value).ownBlock ∧ k_ ≠ gb4011) (.slice (some ⟨go36, 0, none⟩) y4021.length co41) y4031) := ⟨by rw [← hq_]; exact (Kd.N_ext (Kd.N_mono HO_9.out (fun _ hk => ⟨hk.2.1, ⟨hk.2.2.1, ⟨hk.1, hk.2.2.2⟩⟩⟩)))⟩; have n6_ : Aside0 (w46.heap[gb4011]? = some (.cells #[.slice Ao10 t4001.length co10, .slice Ao22 x8_6.length co22, .slice (some ⟨go36, 0, none⟩) y4021.length co41, .bool t4010] 26 (0, 0))) := ⟨by rw [← hq_]; exact (blk_ext BK4011.out)⟩; have n7_ : Aside0 (Below w.heap.size w w46) := ⟨by rw [← hq_]; exact (below_extB HB.out)⟩; clear HL4029_0 HO_4012000 HO_4012001 HO_4012002 HO_8 HO_9 BK4011 HB hq_; have HL4029_0 := n0_; have HO_4012000 := n1_; have HO_4012001 := n2_; have HO_4012002 := n3_; have HO_8 := n4_; have HO_9 := n5_; have BK4011 := n6_; have HB := n7_; clear n0_ n1_ n2_ n3_ n4_ n5_ n6_ n7_))
      have n0_ := Aside0.mk (Kd.R_drew HO_8.out)
      have n1_ := Aside0.mk (Kd.N_drew HO_9.out)
      have n2_ := Aside0.mk (Kd.R_drew HO_4012000.out)
      have n3_ := Aside0.mk (Kd.R_drew HO_4012001.out)
      have n4_ := Aside0.mk (Kd.N_drew HO_4012002.out)
      have n5_ := Aside0.mk (Kd.V_drew HL4029_0.out)
      have n6_ := Aside0.mk (blk_drew BK4011.out)
      have n7_ := Aside0.mk (below_drew1 HB.out)
      clear HO_8
      clear HO_9
      clear HO_4012000
      clear HO_4012001
      clear HO_4012002
      clear HL4029_0
      clear BK4011
      clear HB
      have HO_8 := n0_
      have HO_9 := n1_
      have HO_4012000 := n2_
      have HO_4012001 := n3_
      have HO_4012002 := n4_
      have HL4029_0 := n5_
      have BK4011 := n6_
      have HB := n7_
      clear n0_ n1_ n2_ n3_ n4_ n5_ n6_ n7_
      refine start_ (n := 9) (S := fun w' => w'.cell? ⟨gb4011, 0, none⟩ = some (.slice Ao10 t4001.length co10) ∧ w'.cell? ⟨gb4011, 1, none⟩ = some (.slice Ao22 x8_6.length co22) ∧ w'.cell? ⟨gb4011, 2, none⟩ = some (.slice (some ⟨go36, 0, none⟩) y4021.length co41) ∧ w'.cell? ⟨gb4011, 3, none⟩ = some (.bool t4010)) (ds := []) #[false, false, false, false, false, false, false, false, false] (by kernel_rfl) rfl rfl ⟨(blk_cell BK4011.out 0).trans rfl, (blk_cell BK4011.out 1).trans rfl, (blk_cell BK4011.out 2).trans rfl, (blk_cell BK4011.out 3).trans rfl⟩ (fun hHeld => ?_); refine with_tabW customslaw08_GoodsShares.tab9 customslaw08_GoodsShares.bits9 (fun HT_ HW_ => ?_)
      generalize w46.drew = w47 at HO_8 HO_9 HO_4012000 HO_4012001 HO_4012002 HL4029_0 BK4011 HB hHeld ⊢
      refine take_ (i := 0) (N := some 60) (v := ?_) (a' := ?_) #[true, false, false, false, false, false, false, false, false] rfl rfl (take_ofW HT_.out HW_.out (by kernel_rfl)) (fun _ _ _ h => h) (Or.inl ⟨by rfl, ?_⟩) hHeld ?_ ?_
      rotate_left
      ·
       rintro w' ⟨s0, s1, s2, s3⟩
       go_simp
       with_reducible rfl
      rotate_left
      ·
       simp only [Act.put, List.setIfInBounds_toArray, List.set_cons_zero, List.set_cons_succ, i64_w, i32_w]
       rfl
      refine take_ (i := 2) (N := some 62) (v := ?_) (a' := ?_) #[true, false, true, false, false, false, false, false, false] rfl rfl (take_ofW HT_.out HW_.out (by kernel_rfl)) (fun _ _ _ h => h) (Or.inl ⟨by rfl, ?_⟩) hHeld ?_ ?_
      rotate_left
      ·
       rintro w' ⟨s0, s1, s2, s3⟩
       go_simp
       with_reducible rfl
      rotate_left
      ·
       simp only [Act.put, List.setIfInBounds_toArray, List.set_cons_zero, List.set_cons_succ, i64_w, i32_w]
       rfl
      refine one_ (i := 1) (N := some 61) #[true, true, true, false, false, false, false, false, false] rfl rfl (one_of HT_.out (by kernel_rfl)) (by decide) (fun K hK => ?_)
      refine goes_ Tryd.func10 (by kernel_rfl) rfl #[.agg #[.slice Ao10 t4001.length co10, .slice Ao22 x8_6.length co22, .slice (some ⟨go36, 0, none⟩) y4031.length co41, .bool t4010]] (by rfl) rfl rfl (by (try simp only [List.map_toArray, List.map_cons, List.map_nil]); first | done | (rw [show y4031.length = y4021.length from (Kd.N_reads' HO_9.out).1.symm] <;> rfl) | rfl | (simp only [List.length_drop, List.length_take]; rfl)) ?_
      with_reducible refine (goods_Validate.calls kj6 _ _ t4001 _ _ x8_6 _ _ y4031 t4010 t4032 _ ?side1 ?side2 ?side3 ?side4 ?side5 ?side6 A37.out).mono ?_
      (case side1 => exact Kd.C_ext (Kd.R_reads' HO_4012000.out).2.2)
      (case side2 => exact (Kd.R_reads' HO_4012000.out).2.1)
      (case side3 => exact Kd.C_ext (Kd.R_reads' HO_8.out).2.2)
      (case side4 => exact (Kd.R_reads' HO_8.out).2.1)
      (case side5 => exact Kd.C_ext (Kd.N_reads' HO_9.out).2.2)
      (case side6 => rw [show y4031.length = y4021.length from (Kd.N_reads' HO_9.out).1.symm]; exact (Kd.N_reads' HO_9.out).2.1)
      rintro e w48 ⟨rfl, hb⟩
      refine ⟨_, rfl, ?_⟩
      replace HO_8 := mvR HO_8 hb
      replace HO_9 := mvN HO_9 hb
      replace HO_4012000 := mvR HO_4012000 hb
      replace HO_4012001 := mvR HO_4012001 hb
      replace HO_4012002 := mvN HO_4012002 hb
      replace HL4029_0 := mvV HL4029_0 hb
      replace BK4011 := mvB BK4011 hb
      replace HB := mvH HB hb
      (try clear hb)
      (try clear hb2)
      (try clear hk)
      (try clear hi)
      refine hK.out _ _ ⟨(blk_cell BK4011.out 0).trans rfl, (blk_cell BK4011.out 1).trans rfl, (blk_cell BK4011.out 2).trans rfl, (blk_cell BK4011.out 3).trans rfl⟩ (fun hHeld => ?_)
      clear hK K
      refine norm_ (a' := ?_) ?_ ?_
      rotate_left
      ·
       show Act.put _ (some 61) _ = _
       simp only [Act.put, List.setIfInBounds_toArray, List.set_cons_zero, List.set_cons_succ, i64_w, i32_w]
       rfl
      refine one_ (i := 3) (N := some 63) #[true, true, true, true, false, false, false, false, false] rfl rfl (one_of HT_.out (by kernel_rfl)) (by decide) (fun K hK => ?_)
      refine goes_ Tryd.func11 (by kernel_rfl) rfl #[.agg #[.slice Ao10 t4001.length co10, .slice Ao22 x8_6.length co22, .slice (some ⟨go36, 0, none⟩) y4031.length co41, .bool t4010]] (by rfl) rfl rfl (by (try simp only [List.map_toArray, List.map_cons, List.map_nil]); first | done | (rw [show y4031.length = y4021.length from (Kd.N_reads' HO_9.out).1.symm] <;> rfl) | rfl | (simp only [List.length_drop, List.length_take]; rfl)) ?_
      with_reducible refine (customsref08_Good.calls kj6 _ _ t4001 _ _ x8_6 _ _ y4031 t4010 t4033 _ ?side1 ?side2 ?side3 ?side4 ?side5 ?side6 A38.out).mono ?_
      (case side1 => exact Kd.C_ext (Kd.R_reads' HO_4012000.out).2.2)
      (case side2 => exact (Kd.R_reads' HO_4012000.out).2.1)
      (case side3 => exact Kd.C_ext (Kd.R_reads' HO_8.out).2.2)
      (case side4 => exact (Kd.R_reads' HO_8.out).2.1)
      (case side5 => exact Kd.C_ext (Kd.N_reads' HO_9.out).2.2)
      (case side6 => rw [show y4031.length = y4021.length from (Kd.N_reads' HO_9.out).1.symm]; exact (Kd.N_reads' HO_9.out).2.1)
      rintro e w49 ⟨rfl, hb⟩
      refine ⟨_, rfl, ?_⟩
      replace HO_8 := mvR HO_8 hb
      replace HO_9 := mvN HO_9 hb
      replace HO_4012000 := mvR HO_4012000 hb
      replace HO_4012001 := mvR HO_4012001 hb
      replace HO_4012002 := mvN HO_4012002 hb
      replace HL4029_0 := mvV HL4029_0 hb
      replace BK4011 := mvB BK4011 hb
      replace HB := mvH HB hb
      (try clear hb)
      (try clear hb2)
      (try clear hk)
      (try clear hi)
      refine hK.out _ _ ⟨(blk_cell BK4011.out 0).trans rfl, (blk_cell BK4011.out 1).trans rfl, (blk_cell BK4011.out 2).trans rfl, (blk_cell BK4011.out 3).trans rfl⟩ (fun hHeld => ?_)
      clear hK K
      refine norm_ (a' := ?_) ?_ ?_
      rotate_left
      ·
       show Act.put _ (some 63) _ = _
       simp only [Act.put, List.setIfInBounds_toArray, List.set_cons_zero, List.set_cons_succ, i64_w, i32_w]
       rfl
      refine pure_ (i := 4) (N := some 64) (v := ?_) (a' := ?_) #[true, true, true, true, true, false, false, false, false] rfl rfl (any_of HT_.out (by kernel_rfl)) (fun _ _ _ h => h) (Or.inl ⟨by rfl, ?_⟩) ?_ ?_
      rotate_left
      ·
       intro w'
       go_simp
       with_reducible rfl
      rotate_left
      ·
       simp only [Act.put, List.setIfInBounds_toArray, List.set_cons_zero, List.set_cons_succ, i64_w, i32_w]
       rfl
      refine pure_ (i := 5) (N := some 65) (v := ?_) (a' := ?_) #[true, true, true, true, true, true, false, false, false] rfl rfl (any_of HT_.out (by kernel_rfl)) (fun _ _ _ h => h) (Or.inl ⟨by rfl, ?_⟩) ?_ ?_
      rotate_left
      ·
       intro w'
       go_simp
       with_reducible rfl
      rotate_left
      ·
       simp only [Act.put, List.setIfInBounds_toArray, List.set_cons_zero, List.set_cons_succ, i64_w, i32_w]
       rfl
      refine one_ (i := 6) (N := some 66) #[true, true, true, true, true, true, true, false, false] rfl rfl (one_of HT_.out (by kernel_rfl)) (by decide) (fun K hK => ?_)
      refine goes_ Tryd.func13 (by kernel_rfl) rfl #[] (by rfl) rfl rfl (by (try simp only [List.map_toArray, List.map_cons, List.map_nil]); first | done | rfl | (simp only [List.length_drop, List.length_take]; rfl)) ?_
      with_reducible refine (customslaw08_awake.calls kj6  t4034 _ A40.out ?side1).mono ?_
      (case side1 => exact GL.below HG.out (below_extB HB.out))
      rintro e w50 ⟨rfl, hb⟩
      refine ⟨_, rfl, ?_⟩
      replace HO_8 := mvR HO_8 hb
      replace HO_9 := mvN HO_9 hb
      replace HO_4012000 := mvR HO_4012000 hb
      replace HO_4012001 := mvR HO_4012001 hb
      replace HO_4012002 := mvN HO_4012002 hb
      replace HL4029_0 := mvV HL4029_0 hb
      replace BK4011 := mvB BK4011 hb
      replace HB := mvH HB hb
      (try clear hb)
      (try clear hb2)
      (try clear hk)
      (try clear hi)
      refine hK.out _ _ ⟨(blk_cell BK4011.out 0).trans rfl, (blk_cell BK4011.out 1).trans rfl, (blk_cell BK4011.out 2).trans rfl, (blk_cell BK4011.out 3).trans rfl⟩ (fun hHeld => ?_)
      clear hK K
      refine norm_ (a' := ?_) ?_ ?_
      rotate_left
      ·
       show Act.put _ (some 66) _ = _
       simp only [Act.put, List.setIfInBounds_toArray, List.set_cons_zero, List.set_cons_succ, i64_w, i32_w]
       rfl
      refine pure_ (i := 7) (N := some 67) (v := ?_) (a' := ?_) #[true, true, true, true, true, true, true, true, false] rfl rfl (any_of HT_.out (by kernel_rfl)) (fun _ _ _ h => h) (Or.inl ⟨by rfl, ?_⟩) ?_ ?_
      rotate_left
      ·
       intro w'
       go_simp
       with_reducible rfl
      rotate_left
      ·
       simp only [Act.put, List.setIfInBounds_toArray, List.set_cons_zero, List.set_cons_succ, i64_w, i32_w]
       rfl
      refine pure_ (i := 8) (N := some 6) (v := ?_) (a' := ?_) #[true, true, true, true, true, true, true, true, true] rfl rfl (any_of HT_.out (by kernel_rfl)) (fun _ _ _ h => h) (Or.inl ⟨by rfl, ?_⟩) ?_ ?_
      rotate_left
      ·
       intro w'
       go_simp
       with_reducible rfl
      rotate_left
      ·
       simp only [Act.put, List.setIfInBounds_toArray, List.set_cons_zero, List.set_cons_succ, i64_w, i32_w]
       rfl
      refine done_ (done_of HT_.out (by kernel_rfl)) ?_
      try go_wp2
      go_ret
      exact ⟨by first | rfl | (simp [errW_none, errW_some] <;> rfl) | (simp [*, errW_none, errW_some] <;> rfl), below_extB HB.out⟩
     ·
      rw [if_neg c39] at H
      have c39b0 : (t4032 == t4033) = false := beq_eq_false_iff_ne.mpr c39
      have c39b1 : (t4032 != t4033) = true := bne_iff_ne.mpr c39
      exact absurd H (by simp)
    ·
     rw [if_neg c31] at H
     have c31b0 : decide (0 < (y4021.length : Int)) = false := decide_eq_false c31
     have c31b1 : decide (0 < y4021.length) = false := decide_eq_false (by omega)
     have c31b9 : (0 < y4021.length) = False := eq_false (of_decide_eq_false c31b1)
     clear c31
     replace H := Option.bind_eq_some_iff.mp H
     obtain ⟨t4035, A510, H⟩ := H
     try dsimp only at H
     have A51 := Aside0.mk A510
     clear A510
     replace H := Option.bind_eq_some_iff.mp H
     obtain ⟨t4036, A520, H⟩ := H
     try dsimp only at H
     have A52 := Aside0.mk A520
     clear A520
     by_cases c53 : t4035 = t4036
     ·
      rw [if_pos c53] at H
      have c53b0 : (t4035 == t4036) = true := beq_iff_eq.mpr c53
      have c53b1 : (t4035 != t4036) = false := bne_eq_false_iff_eq.mpr c53
      clear c53
      replace H := Option.bind_eq_some_iff.mp H
      obtain ⟨t4037, A540, H⟩ := H
      try dsimp only at H
      have A54 := Aside0.mk A540
      clear A540
      obtain rfl := Option.some.inj H
      obtain ⟨Ao55, co55, eo55⟩ := Kd.N_slice HO_9.out
      subst eo55
      have hcz56_0 : wc.cell? ⟨gb4011, 0, none⟩ = some (.slice Ao10 t4001.length co10) := (blk_cell BK4011.out 0).trans rfl
      have hcz56_1 : wc.cell? ⟨gb4011, 1, none⟩ = some (.slice Ao12 t4004.length co12) := (blk_cell BK4011.out 1).trans rfl
      have hcz56_2 : wc.cell? ⟨gb4011, 2, none⟩ = some (.slice Ao13 t4007.length co13) := (blk_cell BK4011.out 2).trans rfl
      have hcz56_3 : wc.cell? ⟨gb4011, 3, none⟩ = some (.bool t4010) := (blk_cell BK4011.out 3).trans rfl
      have hfz56_0 := blk_frozen BK4011.out 0
      have hfz56_1 := blk_frozen BK4011.out 1
      have hfz56_2 := blk_frozen BK4011.out 2
      have hfz56_3 := blk_frozen BK4011.out 3
      try go_wp2
      (try simp only [setCell_drewN])
      have n0_ : Aside0 (Kd.R k36 36 ((wc.setCell ⟨gb4011, 1, none⟩ (.slice Ao22 x8_6.length co22)).setCell ⟨gb4011, 2, none⟩ (.slice Ao55 y4021.length co55)) w.heap.size (fun k_ => some k_ ≠ (.slice Ao12 t4004.length co12 : Value).ownBlock) (.slice Ao22 x8_6.length co22) x8_6) := ⟨Kd.R_ext (Kd.R_mono (Kd.R_far (p := ⟨gb4011, 2, none⟩) (Kd.R_far (p := ⟨gb4011, 1, none⟩) (Kd.R_types HO_8.out BK4011.out (by decide)) (fun _ hk => hk.2) (.slice Ao22 x8_6.length co22)) (fun _ hk => hk.2) (.slice Ao55 y4021.length co55)) (fun _ hk => hk.1))⟩
      have n1_ : Aside0 (Kd.N k38 38 ((wc.setCell ⟨gb4011, 1, none⟩ (.slice Ao22 x8_6.length co22)).setCell ⟨gb4011, 2, none⟩ (.slice Ao55 y4021.length co55)) w.heap.size (fun k_ => some k_ ≠ (.slice Ao22 x8_6.length co22 : Value).ownBlock ∧ some k_ ≠ (.slice Ao10 t4001.length co10 : Value).ownBlock ∧ some k_ ≠ (.slice Ao12 t4004.length co12 : Value).ownBlock ∧ k_ ≠ gb4011) (.slice Ao55 y4021.length co55) y4021) := ⟨Kd.N_ext (Kd.N_mono (Kd.N_far (p := ⟨gb4011, 2, none⟩) (Kd.N_far (p := ⟨gb4011, 1, none⟩) (Kd.N_mono HO_9.out (fun k_ hk => (⟨hk, hk.2.2.2⟩ : _ ∧ k_ ≠ gb4011))) (fun _ hk => hk.2) (.slice Ao22 x8_6.length co22)) (fun _ hk => hk.2) (.slice Ao55 y4021.length co55)) (fun _ hk => ⟨hk.1.1, ⟨hk.1.2.1, ⟨hk.1.2.2.1, hk.1.2.2.2⟩⟩⟩))⟩
      have n2_ : Aside0 (Kd.R Kd.string 9 ((wc.setCell ⟨gb4011, 1, none⟩ (.slice Ao22 x8_6.length co22)).setCell ⟨gb4011, 2, none⟩ (.slice Ao55 y4021.length co55)) w.heap.size (fun _ => True) (.slice Ao10 t4001.length co10) t4001) := ⟨Kd.R_ext (Kd.R_mono (Kd.R_far (p := ⟨gb4011, 2, none⟩) (Kd.R_far (p := ⟨gb4011, 1, none⟩) (Kd.R_types HO_4012000.out BK4011.out (by decide)) (fun _ hk => hk.2) (.slice Ao22 x8_6.length co22)) (fun _ hk => hk.2) (.slice Ao55 y4021.length co55)) (fun _ hk => trivial))⟩
      have n3_ : Aside0 (Kd.R k36 36 ((wc.setCell ⟨gb4011, 1, none⟩ (.slice Ao22 x8_6.length co22)).setCell ⟨gb4011, 2, none⟩ (.slice Ao55 y4021.length co55)) w.heap.size (fun k_ => some k_ ≠ (.slice Ao22 x8_6.length co22 : Value).ownBlock) (.slice Ao12 t4004.length co12) t4004) := ⟨Kd.R_ext (Kd.R_mono (Kd.R_far (p := ⟨gb4011, 2, none⟩) (Kd.R_far (p := ⟨gb4011, 1, none⟩) (Kd.R_types HO_4012001.out BK4011.out (by decide)) (fun _ hk => hk.2) (.slice Ao22 x8_6.length co22)) (fun _ hk => hk.2) (.slice Ao55 y4021.length co55)) (fun _ hk => hk.1))⟩
      have n4_ : Aside0 (Kd.N k38 38 ((wc.setCell ⟨gb4011, 1, none⟩ (.slice Ao22 x8_6.length co22)).setCell ⟨gb4011, 2, none⟩ (.slice Ao55 y4021.length co55)) w.heap.size (fun k_ => some k_ ≠ (.slice Ao22 x8_6.length co22 : Value).ownBlock ∧ some k_ ≠ (.slice Ao55 y4021.length co55 : Value).ownBlock ∧ some k_ ≠ (.slice Ao10 t4001.length co10 : Value).ownBlock ∧ some k_ ≠ (.slice Ao12 t4004.length co12 : Value).ownBlock ∧ k_ ≠ gb4011) (.slice Ao13 t4007.length co13) t4007) := ⟨Kd.N_ext (Kd.N_mono (Kd.N_far (p := ⟨gb4011, 2, none⟩) (Kd.N_far (p := ⟨gb4011, 1, none⟩) (Kd.N_mono HO_4012002.out (fun k_ hk => (⟨hk, hk.2.2.2.2⟩ : _ ∧ k_ ≠ gb4011))) (fun _ hk => hk.2) (.slice Ao22 x8_6.length co22)) (fun _ hk => hk.2) (.slice Ao55 y4021.length co55)) (fun _ hk => ⟨hk.1.1, ⟨hk.1.2.1, ⟨hk.1.2.2.1, ⟨hk.1.2.2.2.1, hk.1.2.2.2.2⟩⟩⟩⟩))⟩
      have n5_ : Aside0 (((wc.setCell ⟨gb4011, 1, none⟩ (.slice Ao22 x8_6.length co22)).setCell ⟨gb4011, 2, none⟩ (.slice Ao55 y4021.length co55)).heap[gb4011]? = some (.cells #[.slice Ao10 t4001.length co10, .slice Ao22 x8_6.length co22, .slice Ao55 y4021.length co55, .bool t4010] 26 (0, 0))) := ⟨by (with_reducible repeat (first | refine blk_drewN ?_ _ | refine blk_drew ?_ | refine blk_alloc ?_ _)); refine blk_put (cs := #[.slice Ao10 t4001.length co10, .slice Ao22 x8_6.length co22, .slice Ao13 t4007.length co13, .bool t4010]) ?_ 2 _ rfl; (with_reducible repeat (first | refine blk_drewN ?_ _ | refine blk_drew ?_ | refine blk_alloc ?_ _)); refine blk_put (cs := #[.slice Ao10 t4001.length co10, .slice Ao12 t4004.length co12, .slice Ao13 t4007.length co13, .bool t4010]) ?_ 1 _ rfl; exact blk_ext BK4011.out⟩
      have n6_ : Aside0 (Below w.heap.size w ((wc.setCell ⟨gb4011, 1, none⟩ (.slice Ao22 x8_6.length co22)).setCell ⟨gb4011, 2, none⟩ (.slice Ao55 y4021.length co55))) := ⟨below_extB HB.out⟩
      (try clear HO_8)
      (try clear HO_9)
      (try clear HO_4012000)
      (try clear HO_4012001)
      (try clear HO_4012002)
      (try clear BK4011)
      (try clear HB)
      generalize ((wc.setCell ⟨gb4011, 1, none⟩ (.slice Ao22 x8_6.length co22)).setCell ⟨gb4011, 2, none⟩ (.slice Ao55 y4021.length co55)) = w57 at n0_ n1_ n2_ n3_ n4_ n5_ n6_ ⊢
      have HO_8 := n0_
      have HO_9 := n1_
      have HO_4012000 := n2_
      have HO_4012001 := n3_
      have HO_4012002 := n4_
      have BK4011 := n5_
      have HB := n6_
      clear n0_ n1_ n2_ n3_ n4_ n5_ n6_
      (try (rw [drewN_self w57]; generalize hq_ : World.drewN w57 _ = w57; have n0_ := Aside0.mk (Kd.R_at hq_ HO_8.out); have n1_ := Aside0.mk (Kd.N_at hq_ HO_9.out); have n2_ := Aside0.mk (Kd.R_at hq_ HO_4012000.out); have n3_ := Aside0.mk (Kd.R_at hq_ HO_4012001.out); have n4_ := Aside0.mk (Kd.N_at hq_ HO_4012002.out); have n5_ := Aside0.mk (blk_at hq_ BK4011.out); have n6_ := Aside0.mk (below_at hq_ HB.out); clear hq_ HO_8 HO_9 HO_4012000 HO_4012001 HO_4012002 BK4011 HB; have HO_8 := n0_; have HO_9 := n1_; have HO_4012000 := n2_; have HO_4012001 := n3_; have HO_4012002 := n4_; have BK4011 := n5_; have HB := n6_; clear n0_ n1_ n2_ n3_ n4_ n5_ n6_))
      have n0_ := Aside0.mk (Kd.R_drew HO_8.out)
      have n1_ := Aside0.mk (Kd.N_drew HO_9.out)
      have n2_ := Aside0.mk (Kd.R_drew HO_4012000.out)
      have n3_ := Aside0.mk (Kd.R_drew HO_4012001.out)
      have n4_ := Aside0.mk (Kd.N_drew HO_4012002.out)
      have n5_ := Aside0.mk (blk_drew BK4011.out)
      have n6_ := Aside0.mk (below_drew1 HB.out)
      clear HO_8
      clear HO_9
      clear HO_4012000
      clear HO_4012001
      clear HO_4012002
      clear BK4011
      clear HB
      have HO_8 := n0_
      have HO_9 := n1_
      have HO_4012000 := n2_
      have HO_4012001 := n3_
      have HO_4012002 := n4_
      have BK4011 := n5_
      have HB := n6_
      clear n0_ n1_ n2_ n3_ n4_ n5_ n6_
      refine start_ (n := 9) (S := fun w' => w'.cell? ⟨gb4011, 0, none⟩ = some (.slice Ao10 t4001.length co10) ∧ w'.cell? ⟨gb4011, 1, none⟩ = some (.slice Ao22 x8_6.length co22) ∧ w'.cell? ⟨gb4011, 2, none⟩ = some (.slice Ao55 y4021.length co55) ∧ w'.cell? ⟨gb4011, 3, none⟩ = some (.bool t4010)) (ds := []) #[false, false, false, false, false, false, false, false, false] (by kernel_rfl) rfl rfl ⟨(blk_cell BK4011.out 0).trans rfl, (blk_cell BK4011.out 1).trans rfl, (blk_cell BK4011.out 2).trans rfl, (blk_cell BK4011.out 3).trans rfl⟩ (fun hHeld => ?_); refine with_tabW customslaw08_GoodsShares.tab9 customslaw08_GoodsShares.bits9 (fun HT_ HW_ => ?_)
      generalize w57.drew = w58 at HO_8 HO_9 HO_4012000 HO_4012001 HO_4012002 BK4011 HB hHeld ⊢
      refine take_ (i := 0) (N := some 60) (v := ?_) (a' := ?_) #[true, false, false, false, false, false, false, false, false] rfl rfl (take_ofW HT_.out HW_.out (by kernel_rfl)) (fun _ _ _ h => h) (Or.inl ⟨by rfl, ?_⟩) hHeld ?_ ?_
      rotate_left
      ·
       rintro w' ⟨s0, s1, s2, s3⟩
       go_simp
       with_reducible rfl
      rotate_left
      ·
       simp only [Act.put, List.setIfInBounds_toArray, List.set_cons_zero, List.set_cons_succ, i64_w, i32_w]
       rfl
      refine take_ (i := 2) (N := some 62) (v := ?_) (a' := ?_) #[true, false, true, false, false, false, false, false, false] rfl rfl (take_ofW HT_.out HW_.out (by kernel_rfl)) (fun _ _ _ h => h) (Or.inl ⟨by rfl, ?_⟩) hHeld ?_ ?_
      rotate_left
      ·
       rintro w' ⟨s0, s1, s2, s3⟩
       go_simp
       with_reducible rfl
      rotate_left
      ·
       simp only [Act.put, List.setIfInBounds_toArray, List.set_cons_zero, List.set_cons_succ, i64_w, i32_w]
       rfl
      refine one_ (i := 1) (N := some 61) #[true, true, true, false, false, false, false, false, false] rfl rfl (one_of HT_.out (by kernel_rfl)) (by decide) (fun K hK => ?_)
      refine goes_ Tryd.func10 (by kernel_rfl) rfl #[.agg #[.slice Ao10 t4001.length co10, .slice Ao22 x8_6.length co22, .slice Ao55 y4021.length co55, .bool t4010]] (by rfl) rfl rfl (by (try simp only [List.map_toArray, List.map_cons, List.map_nil]); first | done | rfl | (simp only [List.length_drop, List.length_take]; rfl)) ?_
      with_reducible refine (goods_Validate.calls kj6 _ _ t4001 _ _ x8_6 _ _ y4021 t4010 t4035 _ ?side1 ?side2 ?side3 ?side4 ?side5 ?side6 A51.out).mono ?_
      (case side1 => exact Kd.C_ext (Kd.R_reads' HO_4012000.out).2.2)
      (case side2 => exact (Kd.R_reads' HO_4012000.out).2.1)
      (case side3 => exact Kd.C_ext (Kd.R_reads' HO_8.out).2.2)
      (case side4 => exact (Kd.R_reads' HO_8.out).2.1)
      (case side5 => exact Kd.C_ext (Kd.N_reads' HO_9.out).2.2)
      (case side6 => exact (Kd.N_reads' HO_9.out).2.1)
      rintro e w59 ⟨rfl, hb⟩
      refine ⟨_, rfl, ?_⟩
      replace HO_8 := mvR HO_8 hb
      replace HO_9 := mvN HO_9 hb
      replace HO_4012000 := mvR HO_4012000 hb
      replace HO_4012001 := mvR HO_4012001 hb
      replace HO_4012002 := mvN HO_4012002 hb
      replace BK4011 := mvB BK4011 hb
      replace HB := mvH HB hb
      (try clear hb)
      (try clear hb2)
      (try clear hk)
      (try clear hi)
      refine hK.out _ _ ⟨(blk_cell BK4011.out 0).trans rfl, (blk_cell BK4011.out 1).trans rfl, (blk_cell BK4011.out 2).trans rfl, (blk_cell BK4011.out 3).trans rfl⟩ (fun hHeld => ?_)
      clear hK K
      refine norm_ (a' := ?_) ?_ ?_
      rotate_left
      ·
       show Act.put _ (some 61) _ = _
       simp only [Act.put, List.setIfInBounds_toArray, List.set_cons_zero, List.set_cons_succ, i64_w, i32_w]
       rfl
      refine one_ (i := 3) (N := some 63) #[true, true, true, true, false, false, false, false, false] rfl rfl (one_of HT_.out (by kernel_rfl)) (by decide) (fun K hK => ?_)
      refine goes_ Tryd.func11 (by kernel_rfl) rfl #[.agg #[.slice Ao10 t4001.length co10, .slice Ao22 x8_6.length co22, .slice Ao55 y4021.length co55, .bool t4010]] (by rfl) rfl rfl (by (try simp only [List.map_toArray, List.map_cons, List.map_nil]); first | done | rfl | (simp only [List.length_drop, List.length_take]; rfl)) ?_
      with_reducible refine (customsref08_Good.calls kj6 _ _ t4001 _ _ x8_6 _ _ y4021 t4010 t4036 _ ?side1 ?side2 ?side3 ?side4 ?side5 ?side6 A52.out).mono ?_
      (case side1 => exact Kd.C_ext (Kd.R_reads' HO_4012000.out).2.2)
      (case side2 => exact (Kd.R_reads' HO_4012000.out).2.1)
      (case side3 => exact Kd.C_ext (Kd.R_reads' HO_8.out).2.2)
      (case side4 => exact (Kd.R_reads' HO_8.out).2.1)
      (case side5 => exact Kd.C_ext (Kd.N_reads' HO_9.out).2.2)
      (case side6 => exact (Kd.N_reads' HO_9.out).2.1)
      rintro e w60 ⟨rfl, hb⟩
      refine ⟨_, rfl, ?_⟩
      replace HO_8 := mvR HO_8 hb
      replace HO_9 := mvN HO_9 hb
      replace HO_4012000 := mvR HO_4012000 hb
      replace HO_4012001 := mvR HO_4012001 hb
      replace HO_4012002 := mvN HO_4012002 hb
      replace BK4011 := mvB BK4011 hb
      replace HB := mvH HB hb
      (try clear hb)
      (try clear hb2)
      (try clear hk)
      (try clear hi)
      refine hK.out _ _ ⟨(blk_cell BK4011.out 0).trans rfl, (blk_cell BK4011.out 1).trans rfl, (blk_cell BK4011.out 2).trans rfl, (blk_cell BK4011.out 3).trans rfl⟩ (fun hHeld => ?_)
      clear hK K
      refine norm_ (a' := ?_) ?_ ?_
      rotate_left
      ·
       show Act.put _ (some 63) _ = _
       simp only [Act.put, List.setIfInBounds_toArray, List.set_cons_zero, List.set_cons_succ, i64_w, i32_w]
       rfl
      refine pure_ (i := 4) (N := some 64) (v := ?_) (a' := ?_) #[true, true, true, true, true, false, false, false, false] rfl rfl (any_of HT_.out (by kernel_rfl)) (fun _ _ _ h => h) (Or.inl ⟨by rfl, ?_⟩) ?_ ?_
      rotate_left
      ·
       intro w'
       go_simp
       with_reducible rfl
      rotate_left
      ·
       simp only [Act.put, List.setIfInBounds_toArray, List.set_cons_zero, List.set_cons_succ, i64_w, i32_w]
       rfl
      refine pure_ (i := 5) (N := some 65) (v := ?_) (a' := ?_) #[true, true, true, true, true, true, false, false, false] rfl rfl (any_of HT_.out (by kernel_rfl)) (fun _ _ _ h => h) (Or.inl ⟨by rfl, ?_⟩) ?_ ?_
      rotate_left
      ·
       intro w'
       go_simp
       with_reducible rfl
      rotate_left
      ·
       simp only [Act.put, List.setIfInBounds_toArray, List.set_cons_zero, List.set_cons_succ, i64_w, i32_w]
       rfl
      refine one_ (i := 6) (N := some 66) #[true, true, true, true, true, true, true, false, false] rfl rfl (one_of HT_.out (by kernel_rfl)) (by decide) (fun K hK => ?_)
      refine goes_ Tryd.func13 (by kernel_rfl) rfl #[] (by rfl) rfl rfl (by (try simp only [List.map_toArray, List.map_cons, List.map_nil]); first | done | rfl | (simp only [List.length_drop, List.length_take]; rfl)) ?_
      with_reducible refine (customslaw08_awake.calls kj6  t4037 _ A54.out ?side1).mono ?_
      (case side1 => exact GL.below HG.out (below_extB HB.out))
      rintro e w61 ⟨rfl, hb⟩
      refine ⟨_, rfl, ?_⟩
      replace HO_8 := mvR HO_8 hb
      replace HO_9 := mvN HO_9 hb
      replace HO_4012000 := mvR HO_4012000 hb
      replace HO_4012001 := mvR HO_4012001 hb
      replace HO_4012002 := mvN HO_4012002 hb
      replace BK4011 := mvB BK4011 hb
      replace HB := mvH HB hb
      (try clear hb)
      (try clear hb2)
      (try clear hk)
      (try clear hi)
      refine hK.out _ _ ⟨(blk_cell BK4011.out 0).trans rfl, (blk_cell BK4011.out 1).trans rfl, (blk_cell BK4011.out 2).trans rfl, (blk_cell BK4011.out 3).trans rfl⟩ (fun hHeld => ?_)
      clear hK K
      refine norm_ (a' := ?_) ?_ ?_
      rotate_left
      ·
       show Act.put _ (some 66) _ = _
       simp only [Act.put, List.setIfInBounds_toArray, List.set_cons_zero, List.set_cons_succ, i64_w, i32_w]
       rfl
      refine pure_ (i := 7) (N := some 67) (v := ?_) (a' := ?_) #[true, true, true, true, true, true, true, true, false] rfl rfl (any_of HT_.out (by kernel_rfl)) (fun _ _ _ h => h) (Or.inl ⟨by rfl, ?_⟩) ?_ ?_
      rotate_left
      ·
       intro w'
       go_simp
       with_reducible rfl
      rotate_left
      ·
       simp only [Act.put, List.setIfInBounds_toArray, List.set_cons_zero, List.set_cons_succ, i64_w, i32_w]
       rfl
      refine pure_ (i := 8) (N := some 6) (v := ?_) (a' := ?_) #[true, true, true, true, true, true, true, true, true] rfl rfl (any_of HT_.out (by kernel_rfl)) (fun _ _ _ h => h) (Or.inl ⟨by rfl, ?_⟩) ?_ ?_
      rotate_left
      ·
       intro w'
       go_simp
       with_reducible rfl
      rotate_left
      ·
       simp only [Act.put, List.setIfInBounds_toArray, List.set_cons_zero, List.set_cons_succ, i64_w, i32_w]
       rfl
      refine done_ (done_of HT_.out (by kernel_rfl)) ?_
      try go_wp2
      go_ret
      exact ⟨by first | rfl | (simp [errW_none, errW_some] <;> rfl) | (simp [*, errW_none, errW_some] <;> rfl), below_extB HB.out⟩
     ·
      rw [if_neg c53] at H
      have c53b0 : (t4035 == t4036) = false := beq_eq_false_iff_ne.mpr c53
      have c53b1 : (t4035 != t4036) = true := bne_iff_ne.mpr c53
      exact absurd H (by simp)
 ·
  rw [if_neg c5] at H
  exact absurd H (by simp)

end Go.Proofs.YtoolggpfgadjlaaDoor.Z
