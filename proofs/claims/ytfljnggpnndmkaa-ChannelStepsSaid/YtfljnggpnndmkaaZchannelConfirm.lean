/- Written by a program of this session: each Go function as a plain Lean function, and that the machine's call does what it says. Conditions: none but those each theorem states. -/
import Derived.Test.YtfljnggpnndmkaaZ0
import Derived.Test.YtfljnggpnndmkaaZchannelcopied
import Derived.Test.YtfljnggpnndmkaaZchannelhas
import Derived.Test.YtfljnggpnndmkaaZslicesDeleteintint
namespace Go.Proofs.Ytfljnggpnndmkaa.Z
open Go.RowKit Go.Proofs.YtfljnggpnndmkaaW.PrintWords Go.Proofs.YtfljnggpnndmkaaW.PrintLast Go.Proofs.YtfljnggpnndmkaaW.PrintMore
attribute [local go_sem] max2_int min2_int max_two min_two max_three min_three max_four min_four   -- for this text's walks alone
set_option linter.unusedVariables false
set_option linter.unusedSimpArgs false

/-! ### channel_Confirm: function 45 -/
def channel_Confirm.f (a0_0 : Int) (l0_1 : List Int) (l0_2 : List Int) (a1 : Int) : Option (Int × List Int × List Int × Int) := (channel_has.f l0_2 a1).bind fun t45003 => (if t45003 = true then ((channel_copied.f a0_0 l0_1 l0_2).bind fun bt45004 => (if 0 ≤ a1 then (if a1 < (bt45004.2.2.length : Int) then ((slices_Delete_int_int.f bt45004.2.2 a1 (wrap64 (a1 + 1))).bind fun t45012 => (some (mx bt45004.1 (rd bt45004.2.2 a1), bt45004.2.1, t45012, 0))) else (none)) else (none))) else (some (0, ([] : List Int), ([] : List Int), 2)))
def channel_Confirm.T4 : Bool × List (List Nat × List Nat) := (true, [([], []), ([0], [0]), ([], []), ([2], [2]), ([], []), ([3, 4], [3, 4]), ([5], [5]), ([1, 6], [1, 6]), ([0, 1, 2, 3, 4, 5, 6, 7], []), ([8, 7, 0, 1, 2, 3, 4, 5, 6, 7], [7, 8])])
def channel_Confirm.B4 : List Nat := [0, 1, 0, 4, 0, 28, 60, 127, 255, 511]
theorem channel_Confirm.tab4 : rtab .any (opsOf Try.f45 4) = channel_Confirm.T4 := by kernel_rfl
theorem channel_Confirm.bits4 : waitsOk channel_Confirm.T4.2 channel_Confirm.B4 = true := by kernel_rfl
set_option maxHeartbeats 8000000 in
set_option maxRecDepth 100000 in
theorem channel_Confirm.calls (a0_0 : Int) (A0_1 : Option Addr) (c0_1 : Nat) (l0_1 : List Int) (A0_2 : Option Addr) (c0_2 : Nat) (l0_2 : List Int) (a1 : Int) (r1 : Int) (r2 : List Int) (r3 : List Int) (r4 : Int) (w : World) (hr0_1 : Kd.C (Kd.int .i64) w A0_1 l0_1.length l0_1) (hc0_1 : l0_1.length ≤ c0_1) (hr0_2 : Kd.C (Kd.int .i64) w A0_2 l0_2.length l0_2) (hc0_2 : l0_2.length ≤ c0_2) (h : channel_Confirm.f a0_0 l0_1 l0_2 a1 = some (r1, r2, r3, r4)) :
    Calls Try.prog 45 #[.agg #[.int .i64 a0_0, .slice A0_1 l0_1.length c0_1, .slice A0_2 l0_2.length c0_2], .int .i64 a1] w fun e w' => ∃ v1_ v2_ : Value, e = .returned (.tuple #[.agg #[.int .i64 r1, v1_, v2_], .int .i64 r4]) ∧ Kd.R (Kd.int .i64) 3 w' w.heap.size (fun k_ => some k_ ≠ (v2_ : Value).ownBlock) v1_ r2 ∧ Kd.R (Kd.int .i64) 3 w' w.heap.size (fun k_ => some k_ ≠ (v1_ : Value).ownBlock) v2_ r3 ∧ Below w.heap.size w w' := by
  have hu44 := Try.underlying44
  have HR0_1 := Aside0.mk hr0_1
  have HC0_1 := Aside0.mk hc0_1
  clear hr0_1 hc0_1
  have HR0_2 := Aside0.mk hr0_2
  have HC0_2 := Aside0.mk hc0_2
  clear hr0_2 hc0_2
  have HB := Aside0.mk (Below.refl w.heap.size w)
  have H : ((channel_has.f l0_2 a1).bind fun t45003 => (if t45003 = true then ((channel_copied.f a0_0 l0_1 l0_2).bind fun bt45004 => (if 0 ≤ a1 then (if a1 < (bt45004.2.2.length : Int) then ((slices_Delete_int_int.f bt45004.2.2 a1 (wrap64 (a1 + 1))).bind fun t45012 => (some (mx bt45004.1 (rd bt45004.2.2 a1), bt45004.2.1, t45012, 0))) else (none)) else (none))) else (some (0, ([] : List Int), ([] : List Int), 2)))) = some (r1, r2, r3, r4) := h
  clear h
  replace H := Option.bind_eq_some_iff.mp H
  obtain ⟨t45003, A30, H⟩ := H
  replace H : (if t45003 = true then ((channel_copied.f a0_0 l0_1 l0_2).bind fun bt45004 => (if 0 ≤ a1 then (if a1 < (bt45004.2.2.length : Int) then ((slices_Delete_int_int.f bt45004.2.2 a1 (wrap64 (a1 + 1))).bind fun t45012 => (some (mx bt45004.1 (rd bt45004.2.2 a1), bt45004.2.1, t45012, 0))) else (none)) else (none))) else (some (0, ([] : List Int), ([] : List Int), 2))) = some (r1, r2, r3, r4) := H
  have A3 := Aside0.mk A30
  clear A30
  by_cases c4 : t45003 = true
  · subst c4
    have H1 : ((channel_copied.f a0_0 l0_1 l0_2).bind fun bt45004 => (if 0 ≤ a1 then (if a1 < (bt45004.2.2.length : Int) then ((slices_Delete_int_int.f bt45004.2.2 a1 (wrap64 (a1 + 1))).bind fun t45012 => (some (mx bt45004.1 (rd bt45004.2.2 a1), bt45004.2.1, t45012, 0))) else (none)) else (none))) = some (r1, r2, r3, r4) := by rw [if_pos rfl] at H; exact H
    clear H
    have H := H1
    clear H1
    replace H := Option.bind_eq_some_iff.mp H
    obtain ⟨⟨t45004, t45005, t45008⟩, A50, H⟩ := H
    replace H : (if 0 ≤ a1 then (if a1 < (t45008.length : Int) then ((slices_Delete_int_int.f t45008 a1 (wrap64 (a1 + 1))).bind fun t45012 => (some (mx t45004 (rd t45008 a1), t45005, t45012, 0))) else (none)) else (none)) = some (r1, r2, r3, r4) := H
    have A5 := Aside0.mk A50
    clear A50
    replace H := if_some H; obtain ⟨c6, H⟩ := H
    have c6b0 : decide (0 ≤ a1) = true := decide_eq_true c6
    clear c6
    replace H := if_some H; obtain ⟨c7, H⟩ := H
    have c7b0 : decide (a1 < (t45008.length : Int)) = true := decide_eq_true c7
    clear c7
    obtain ⟨ji8, hji8⟩ : ∃ j_ : Int, (mx t45004 (rd t45008 a1)) = j_ := ⟨_, rfl⟩
    replace H : ((slices_Delete_int_int.f t45008 a1 (wrap64 (a1 + 1))).bind fun t45012 => (some (ji8, t45005, t45012, 0))) = some (r1, r2, r3, r4) := by first | (rw [hji8] at H; exact H) | (simp only [hji8] at H ⊢; exact H)
    (try rw [hji8] at A3)
    (try rw [hji8] at A5)
    have hji8_ : (if t45004 < (rd t45008 a1) then (rd t45008 a1) else t45004) = ji8 := hji8
    replace H := Option.bind_eq_some_iff.mp H
    obtain ⟨t45012, A90, H⟩ := H
    replace H : (some (ji8, t45005, t45012, 0)) = some (r1, r2, r3, r4) := H
    have A9 := Aside0.mk A90
    clear A90
    simp only [Option.some.injEq, Prod.mk.injEq] at H
    obtain ⟨rfl, rfl, rfl, rfl⟩ := H
    go_enter Try.func45, Try.ntmps45
    try go_wp2_with (first | ((with_reducible refine gate_dst (N := 2) rfl ?_); refine box_event ?hg (N := 2) ?hd (cs := #[.int .i64 a0_0, .slice A0_1 l0_1.length c0_1, .slice A0_2 l0_2.length c0_2]) (t := 44) ?hr ?_; (case hd => rfl); (case hg => rfl); (case hr => first | (go_simp; done) | (go_simp; rfl)); intro gb45001 hg w10 hbox hb; have n1_ := Aside0.mk (hbox); have n2_ := Aside0.mk ((by rw [hg]; exact (below_size (below_ext HB.out)) : w.heap.size ≤ gb45001)); have n3_ := Aside0.mk ((by rw [hg]; exact (below_size (below_ext HB.out)) : w.heap.size ≤ gb45001)); have BK45001 := n1_; have GW45001 := n2_; have GE45001 := n3_; have GI45001 := GE_.mk GE45001.out; replace HB := mvH HB hb; clear n1_ n2_ n3_; clear hb hbox hg) | ((with_reducible refine gate_dst (N := 4) rfl ?_); refine box_event ?hg (N := 4) ?hd (cs := #[.int .i64 0, .slice none 0 0, .slice none 0 0]) (t := 44) ?hr ?_; (case hd => rfl); (case hg => rfl); (case hr => first | (go_simp; done) | (go_simp; rfl)); intro gb45002 hg w11 hbox hb; have n2_ := Aside0.mk (hbox); have n3_ := Aside0.mk ((by rw [hg]; exact (below_size (below_extB HB.out)) : w.heap.size ≤ gb45002)); have n4_ := Aside0.mk ((by rw [hg]; exact (below_size (below_extB HB.out)) : w.heap.size ≤ gb45002)); have n5_ := Aside0.mk ((by rw [hg]; exact Nat.ne_of_lt (blk_lt (blk_ext BK45001.out)) : gb45001 ≠ gb45002)); have n6_ := Aside0.mk ((by rw [hg]; exact Nat.ne_of_gt (blk_lt (blk_ext BK45001.out)) : gb45002 ≠ gb45001)); have BK45002 := n2_; have GW45002 := n3_; have GE45002 := n4_; have GI45002 := GE_.mk GE45002.out; have NB45001_45002 := n5_; have NI45001_45002 := NE_.mk NB45001_45002.out; have NB45002_45001 := n6_; have NI45002_45001 := NE_.mk NB45002_45001.out; replace BK45001 := mvB BK45001 hb; replace HB := mvH HB hb; clear n2_ n3_ n4_ n5_ n6_; clear hb hbox hg; have hnb12 := NB45001_45002.out; have hnc12 := NB45002_45001.out; have hcz13_0 : w11.cell? ⟨gb45001, 0, none⟩ = some (.int .i64 a0_0) := (blk_cell BK45001.out 0).trans rfl; have hcz13_1 : w11.cell? ⟨gb45001, 1, none⟩ = some (.slice A0_1 l0_1.length c0_1) := (blk_cell BK45001.out 1).trans rfl; have hcz13_2 : w11.cell? ⟨gb45001, 2, none⟩ = some (.slice A0_2 l0_2.length c0_2) := (blk_cell BK45001.out 2).trans rfl; have hfz13_0 := blk_frozen BK45001.out 0; have hfz13_1 := blk_frozen BK45001.out 1; have hfz13_2 := blk_frozen BK45001.out 2) | ((with_reducible refine gate_callee (f := 71) rfl ?_); refine goesL_ (some 9) rfl rfl Try.func71 (by kernel_rfl) rfl #[.slice A0_2 l0_2.length c0_2, .int .i64 a1] rfl (by (try simp only [List.map_toArray, List.map_cons, List.map_nil]); first | done | rfl | (simp only [List.length_drop, List.length_take]; rfl)) ?_; (with_reducible refine (channel_has.calls _ _ l0_2 a1 true _ ?side1 ?side2 A3.out).mono ?_); (case side1 => repeat (first | exact (Kd.C_below HR0_2.out HB.out) | (with_reducible refine Kd.C_alloc ?_ _) | (with_reducible refine Kd.C_drewN ?_ _) | (with_reducible refine Kd.C_drew ?_))); (case side2 => exact HC0_2.out); rintro e w' ⟨rfl, ⟨nd, rfl⟩⟩; refine ⟨_, rfl, ?_⟩; (try (rw [drewN_self w11]; generalize hq_ : World.drewN w11 _ = w11; have n0_ : Aside0 (w11.heap[gb45001]? = some (.cells #[.int .i64 a0_0, .slice A0_1 l0_1.length c0_1, .slice A0_2 l0_2.length c0_2] 44 (0, 0))) := ⟨by rw [← hq_]; exact (blk_ext BK45001.out)⟩; have n1_ : Aside0 (w11.heap[gb45002]? = some (.cells #[.int .i64 0, .slice none 0 0, .slice none 0 0] 44 (0, 0))) := ⟨by rw [← hq_]; exact (blk_ext BK45002.out)⟩; have n2_ : Aside0 (Below w.heap.size w w11) := ⟨by rw [← hq_]; exact (below_extB HB.out)⟩; clear BK45001 BK45002 HB hq_; have BK45001 := n0_; have BK45002 := n1_; have HB := n2_; clear n0_ n1_ n2_)); (try have hcz13_0 : w11.cell? ⟨gb45001, 0, none⟩ = some (.int .i64 a0_0) := (blk_cell BK45001.out 0).trans rfl); (try have hcz13_1 : w11.cell? ⟨gb45001, 1, none⟩ = some (.slice A0_1 l0_1.length c0_1) := (blk_cell BK45001.out 1).trans rfl); (try have hcz13_2 : w11.cell? ⟨gb45001, 2, none⟩ = some (.slice A0_2 l0_2.length c0_2) := (blk_cell BK45001.out 2).trans rfl)) | ((with_reducible refine gate_callee (f := 70) rfl ?_); refine goesL_ (some 13) rfl rfl Try.func70 (by kernel_rfl) rfl #[.agg #[.int .i64 a0_0, .slice A0_1 l0_1.length c0_1, .slice A0_2 l0_2.length c0_2]] rfl (by (try simp only [List.map_toArray, List.map_cons, List.map_nil]); first | done | rfl | (simp only [List.length_drop, List.length_take]; rfl)) ?_; (with_reducible refine (channel_copied.calls a0_0 _ _ l0_1 _ _ l0_2 t45004 t45005 t45008 _ ?side1 ?side2 ?side3 ?side4 A5.out).mono ?_); (case side1 => repeat (first | exact (Kd.C_below HR0_1.out HB.out) | (with_reducible refine Kd.C_alloc ?_ _) | (with_reducible refine Kd.C_drewN ?_ _) | (with_reducible refine Kd.C_drew ?_))); (case side2 => exact HC0_1.out); (case side3 => repeat (first | exact (Kd.C_below HR0_2.out HB.out) | (with_reducible refine Kd.C_alloc ?_ _) | (with_reducible refine Kd.C_drewN ?_ _) | (with_reducible refine Kd.C_drew ?_))); (case side4 => exact HC0_2.out); rintro e w14 ⟨v45006, v45009, rfl, ho0, ho1, hb⟩; refine ⟨_, rfl, ?_⟩; have n0_ := Aside0.mk (Kd.R_lower ho0 (below_size (below_extB HB.out))); have n1_ := Aside0.mk (Kd.R_lower ho1 (below_size (below_extB HB.out))); have HO45007 := n0_; have HO45010 := n1_; replace BK45001 := mvB BK45001 hb; replace BK45002 := mvB BK45002 hb; replace HB := mvH HB hb; clear n0_ n1_; (try clear hb); (try clear hb2); (try clear hk); (try clear hi); (try clear ho0); (try clear ho1); have hcz15_0 : w14.cell? ⟨gb45001, 0, none⟩ = some (.int .i64 a0_0) := (blk_cell BK45001.out 0).trans rfl; have hcz15_1 : w14.cell? ⟨gb45001, 1, none⟩ = some (.slice A0_1 l0_1.length c0_1) := (blk_cell BK45001.out 1).trans rfl; have hcz15_2 : w14.cell? ⟨gb45001, 2, none⟩ = some (.slice A0_2 l0_2.length c0_2) := (blk_cell BK45001.out 2).trans rfl; have hfz15_0 := blk_frozen BK45001.out 0; have hfz15_1 := blk_frozen BK45001.out 1; have hfz15_2 := blk_frozen BK45001.out 2; obtain ⟨Ao16, co16, eo16⟩ := Kd.R_slice HO45007.out; subst eo16; obtain ⟨Ao17, co17, eo17⟩ := Kd.R_slice HO45010.out; subst eo17))
    have n0_ : Aside0 (Kd.R (Kd.int .i64) 3 (((w14.setCell ⟨gb45001, 0, none⟩ (.int .i64 t45004)).setCell ⟨gb45001, 1, none⟩ (.slice Ao16 t45005.length co16)).setCell ⟨gb45001, 2, none⟩ (.slice Ao17 t45008.length co17)) w.heap.size (fun k_ => some k_ ≠ (.slice Ao17 t45008.length co17 : Value).ownBlock) (.slice Ao16 t45005.length co16) t45005) := ⟨Kd.R_ext (Kd.R_mono (Kd.R_far (p := ⟨gb45001, 2, none⟩) (Kd.R_far (p := ⟨gb45001, 1, none⟩) (Kd.R_far (p := ⟨gb45001, 0, none⟩) (Kd.R_types HO45007.out BK45001.out (by decide)) (fun _ hk => hk.2) (.int .i64 t45004)) (fun _ hk => hk.2) (.slice Ao16 t45005.length co16)) (fun _ hk => hk.2) (.slice Ao17 t45008.length co17)) (fun _ hk => hk.1))⟩
    have n1_ : Aside0 (Kd.R (Kd.int .i64) 3 (((w14.setCell ⟨gb45001, 0, none⟩ (.int .i64 t45004)).setCell ⟨gb45001, 1, none⟩ (.slice Ao16 t45005.length co16)).setCell ⟨gb45001, 2, none⟩ (.slice Ao17 t45008.length co17)) w.heap.size (fun k_ => some k_ ≠ (.slice Ao16 t45005.length co16 : Value).ownBlock) (.slice Ao17 t45008.length co17) t45008) := ⟨Kd.R_ext (Kd.R_mono (Kd.R_far (p := ⟨gb45001, 2, none⟩) (Kd.R_far (p := ⟨gb45001, 1, none⟩) (Kd.R_far (p := ⟨gb45001, 0, none⟩) (Kd.R_types HO45010.out BK45001.out (by decide)) (fun _ hk => hk.2) (.int .i64 t45004)) (fun _ hk => hk.2) (.slice Ao16 t45005.length co16)) (fun _ hk => hk.2) (.slice Ao17 t45008.length co17)) (fun _ hk => hk.1))⟩
    have n2_ : Aside0 ((((w14.setCell ⟨gb45001, 0, none⟩ (.int .i64 t45004)).setCell ⟨gb45001, 1, none⟩ (.slice Ao16 t45005.length co16)).setCell ⟨gb45001, 2, none⟩ (.slice Ao17 t45008.length co17)).heap[gb45001]? = some (.cells #[.int .i64 t45004, .slice Ao16 t45005.length co16, .slice Ao17 t45008.length co17] 44 (0, 0))) := ⟨by (with_reducible repeat (first | refine blk_drewN ?_ _ | refine blk_drew ?_ | refine blk_alloc ?_ _)); refine blk_put (cs := #[.int .i64 t45004, .slice Ao16 t45005.length co16, .slice A0_2 l0_2.length c0_2]) ?_ 2 _ rfl; (with_reducible repeat (first | refine blk_drewN ?_ _ | refine blk_drew ?_ | refine blk_alloc ?_ _)); refine blk_put (cs := #[.int .i64 t45004, .slice A0_1 l0_1.length c0_1, .slice A0_2 l0_2.length c0_2]) ?_ 1 _ rfl; (with_reducible repeat (first | refine blk_drewN ?_ _ | refine blk_drew ?_ | refine blk_alloc ?_ _)); refine blk_put (cs := #[.int .i64 a0_0, .slice A0_1 l0_1.length c0_1, .slice A0_2 l0_2.length c0_2]) ?_ 0 _ rfl; exact blk_ext BK45001.out⟩
    have n3_ : Aside0 ((((w14.setCell ⟨gb45001, 0, none⟩ (.int .i64 t45004)).setCell ⟨gb45001, 1, none⟩ (.slice Ao16 t45005.length co16)).setCell ⟨gb45001, 2, none⟩ (.slice Ao17 t45008.length co17)).heap[gb45002]? = some (.cells #[.int .i64 0, .slice none 0 0, .slice none 0 0] 44 (0, 0))) := ⟨blk_extC BK45002.out⟩
    have n4_ : Aside0 (Below w.heap.size w (((w14.setCell ⟨gb45001, 0, none⟩ (.int .i64 t45004)).setCell ⟨gb45001, 1, none⟩ (.slice Ao16 t45005.length co16)).setCell ⟨gb45001, 2, none⟩ (.slice Ao17 t45008.length co17))) := ⟨below_extB HB.out⟩
    (try clear HO45007)
    (try clear HO45010)
    (try clear BK45001)
    (try clear BK45002)
    (try clear HB)
    generalize (((w14.setCell ⟨gb45001, 0, none⟩ (.int .i64 t45004)).setCell ⟨gb45001, 1, none⟩ (.slice Ao16 t45005.length co16)).setCell ⟨gb45001, 2, none⟩ (.slice Ao17 t45008.length co17)) = w18 at n0_ n1_ n2_ n3_ n4_ ⊢
    have HO45007 := n0_
    have HO45010 := n1_
    have BK45001 := n2_
    have BK45002 := n3_
    have HB := n4_
    clear n0_ n1_ n2_ n3_ n4_
    have n0_ := Aside0.mk (Kd.R_drew HO45007.out)
    have n1_ := Aside0.mk (Kd.R_drew HO45010.out)
    have n2_ := Aside0.mk (blk_drew BK45001.out)
    have n3_ := Aside0.mk (blk_drew BK45002.out)
    have n4_ := Aside0.mk (below_drew1 HB.out)
    clear HO45007
    clear HO45010
    clear BK45001
    clear BK45002
    clear HB
    have HO45007 := n0_
    have HO45010 := n1_
    have BK45001 := n2_
    have BK45002 := n3_
    have HB := n4_
    clear n0_ n1_ n2_ n3_ n4_
    have p45011 : 0 ≤ (a1 : Int) := of_decide_eq_true (by first | (with_reducible assumption) | assumption)
    have q45011 : a1 < (t45008.length : Int) := of_decide_eq_true (by first | (with_reducible assumption) | assumption)
    obtain ⟨ad45011, e45011, hx45011_0⟩ := Kd.at_int (Kd.R_reads' HO45010.out).2.2 a1 p45011 q45011
    cases e45011
    replace p45011 := eq_true p45011
    replace q45011 := eq_true q45011
    refine start_ (n := 10) (S := fun w' => w'.cell? ⟨gb45001, 0, none⟩ = some (.int .i64 t45004) ∧ w'.cell? ⟨gb45001, 1, none⟩ = some (.slice Ao16 t45005.length co16) ∧ w'.cell? ⟨gb45001, 2, none⟩ = some (.slice (some ad45011) t45008.length co17) ∧ w'.cell? (ad45011.add (a1).toNat) = some (.int .i64 (rd t45008 a1))) (ds := [9]) #[false, false, false, false, false, false, false, false, false, false] (by kernel_rfl) rfl rfl ⟨(blk_cell BK45001.out 0).trans rfl, (blk_cell BK45001.out 1).trans rfl, (blk_cell BK45001.out 2).trans rfl, hx45011_0⟩ (fun hHeld => ?_); refine with_tabW channel_Confirm.tab4 channel_Confirm.bits4 (fun HT_ HW_ => ?_)
    generalize w18.drew = w19 at HO45007 HO45010 BK45001 BK45002 HB hx45011_0 hHeld ⊢
    refine pure_ (i := 0) (N := some 14) (v := ?_) (a' := ?_) #[true, false, false, false, false, false, false, false, false, false] rfl rfl (any_of HT_.out (by kernel_rfl)) (fun _ _ _ h => h) (Or.inl ⟨by rfl, ?_⟩) ?_ ?_
    rotate_left
    · intro w'
      go_simp
      with_reducible rfl
    rotate_left
    · simp only [Act.put, List.setIfInBounds_toArray, List.set_cons_zero, List.set_cons_succ, i64_w, i32_w]
      rfl
    refine pure_ (i := 2) (N := some 16) (v := ?_) (a' := ?_) #[true, false, true, false, false, false, false, false, false, false] rfl rfl (any_of HT_.out (by kernel_rfl)) (fun _ _ _ h => h) (Or.inl ⟨by rfl, ?_⟩) ?_ ?_
    rotate_left
    · intro w'
      go_simp
      with_reducible rfl
    rotate_left
    · simp only [Act.put, List.setIfInBounds_toArray, List.set_cons_zero, List.set_cons_succ, i64_w, i32_w]
      rfl
    refine pure_ (i := 4) (N := some 18) (v := ?_) (a' := ?_) #[true, false, true, false, true, false, false, false, false, false] rfl rfl (any_of HT_.out (by kernel_rfl)) (fun _ _ _ h => h) (Or.inl ⟨by rfl, ?_⟩) ?_ ?_
    rotate_left
    · intro w'
      go_simp
      with_reducible rfl
    rotate_left
    · simp only [Act.put, List.setIfInBounds_toArray, List.set_cons_zero, List.set_cons_succ, i64_w, i32_w]
      rfl
    refine take_ (i := 1) (N := some 15) (v := ?_) (a' := ?_) #[true, true, true, false, true, false, false, false, false, false] rfl rfl (take_ofW HT_.out HW_.out (by kernel_rfl)) (fun _ _ _ h => h) (Or.inl ⟨by rfl, ?_⟩) hHeld ?_ ?_
    rotate_left
    · rintro w' ⟨s0, s1, s2, s3⟩
      go_simp
      with_reducible rfl
    rotate_left
    · simp only [Act.put, List.setIfInBounds_toArray, List.set_cons_zero, List.set_cons_succ, i64_w, i32_w]
      rfl
    refine take_ (i := 3) (N := some 17) (v := ?_) (a' := ?_) #[true, true, true, true, true, false, false, false, false, false] rfl rfl (take_ofW HT_.out HW_.out (by kernel_rfl)) (fun _ _ _ h => h) (Or.inl ⟨by rfl, ?_⟩) hHeld ?_ ?_
    rotate_left
    · rintro w' ⟨s0, s1, s2, s3⟩
      go_simp
      with_reducible rfl
    rotate_left
    · simp only [Act.put, List.setIfInBounds_toArray, List.set_cons_zero, List.set_cons_succ, i64_w, i32_w]
      rfl
    refine pure_ (i := 5) (N := some 19) (v := ?_) (a' := ?_) #[true, true, true, true, true, true, false, false, false, false] rfl rfl (any_of HT_.out (by kernel_rfl)) (fun _ _ _ h => h) (Or.inl ⟨by rfl, ?_⟩) ?_ ?_
    rotate_left
    · intro w'
      go_simp
      with_reducible rfl
    rotate_left
    · simp only [Act.put, List.setIfInBounds_toArray, List.set_cons_zero, List.set_cons_succ, i64_w, i32_w]
      rfl
    refine take_ (i := 6) (N := some 20) (v := ?_) (a' := ?_) #[true, true, true, true, true, true, true, false, false, false] rfl rfl (take_ofW HT_.out HW_.out (by kernel_rfl)) (fun _ _ _ h => h) (Or.inl ⟨by rfl, ?_⟩) hHeld ?_ ?_
    rotate_left
    · rintro w' ⟨s0, s1, s2, s3⟩
      go_simp
      with_reducible rfl
    rotate_left
    · simp only [Act.put, List.setIfInBounds_toArray, List.set_cons_zero, List.set_cons_succ, i64_w, i32_w]
      rfl
    refine pure_ (i := 7) (N := some 21) (v := ?_) (a' := ?_) #[true, true, true, true, true, true, true, true, false, false] rfl rfl (any_of HT_.out (by kernel_rfl)) (fun _ _ _ h => h) (Or.inl ⟨by rfl, ?_⟩) ?_ ?_
    rotate_left
    · intro w'
      go_simp
      with_reducible rfl
    rotate_left
    · simp only [Act.put, List.setIfInBounds_toArray, List.set_cons_zero, List.set_cons_succ, i64_w, i32_w]
      rfl
    refine pure_ (i := 8) (N := some 22) (v := ?_) (a' := ?_) #[true, true, true, true, true, true, true, true, true, false] rfl rfl (any_of HT_.out (by kernel_rfl)) (fun _ _ _ h => h) (Or.inl ⟨by rfl, ?_⟩) ?_ ?_
    rotate_left
    · intro w'
      go_simp
      with_reducible rfl
    rotate_left
    · simp only [Act.put, List.setIfInBounds_toArray, List.set_cons_zero, List.set_cons_succ, i64_w, i32_w]
      rfl
    refine last_ (i := 9) (N := none) #[true, true, true, true, true, true, true, true, true, true] rfl rfl (one_of HT_.out (by kernel_rfl)) (by decide) (fun K hK => ?_)
    have hs20 : w19.cell? ⟨gb45001, 0, none⟩ = some (.int .i64 t45004) := (blk_cell BK45001.out 0).trans rfl
    have hfs20 := blk_frozen BK45001.out 0
    have hns20_1 := NB45002_45001.out
    have hms20_1 := NB45001_45002.out
    refine skip_ (w1 := ?_) (by rfl) rfl ?_ ?_
    rotate_left
    · go_simp
      rfl
    refine hK.out _ _ ?_
    clear hK K
    refine done_ (done_of HT_.out (by kernel_rfl)) ?_
    have n0_ : Aside0 (Kd.R (Kd.int .i64) 3 (w19.setCell ⟨gb45001, 0, none⟩ (.int .i64 ji8)) w.heap.size (fun k_ => some k_ ≠ (.slice (some ad45011) t45008.length co17 : Value).ownBlock) (.slice Ao16 t45005.length co16) t45005) := ⟨Kd.R_ext (Kd.R_mono (Kd.R_far (p := ⟨gb45001, 0, none⟩) (Kd.R_types HO45007.out BK45001.out (by decide)) (fun _ hk => hk.2) (.int .i64 ji8)) (fun _ hk => hk.1))⟩
    have n1_ : Aside0 (Kd.R (Kd.int .i64) 3 (w19.setCell ⟨gb45001, 0, none⟩ (.int .i64 ji8)) w.heap.size (fun k_ => some k_ ≠ (.slice Ao16 t45005.length co16 : Value).ownBlock) (.slice (some ad45011) t45008.length co17) t45008) := ⟨Kd.R_ext (Kd.R_mono (Kd.R_far (p := ⟨gb45001, 0, none⟩) (Kd.R_types HO45010.out BK45001.out (by decide)) (fun _ hk => hk.2) (.int .i64 ji8)) (fun _ hk => hk.1))⟩
    have n2_ : Aside0 ((w19.setCell ⟨gb45001, 0, none⟩ (.int .i64 ji8)).heap[gb45001]? = some (.cells #[.int .i64 ji8, .slice Ao16 t45005.length co16, .slice (some ad45011) t45008.length co17] 44 (0, 0))) := ⟨by (with_reducible repeat (first | refine blk_drewN ?_ _ | refine blk_drew ?_ | refine blk_alloc ?_ _)); refine blk_put (cs := #[.int .i64 t45004, .slice Ao16 t45005.length co16, .slice (some ad45011) t45008.length co17]) ?_ 0 _ rfl; exact blk_ext BK45001.out⟩
    have n3_ : Aside0 ((w19.setCell ⟨gb45001, 0, none⟩ (.int .i64 ji8)).heap[gb45002]? = some (.cells #[.int .i64 0, .slice none 0 0, .slice none 0 0] 44 (0, 0))) := ⟨blk_extC BK45002.out⟩
    have n4_ : Aside0 (Below w.heap.size w (w19.setCell ⟨gb45001, 0, none⟩ (.int .i64 ji8))) := ⟨below_extB HB.out⟩
    (try clear HO45007)
    (try clear HO45010)
    (try clear BK45001)
    (try clear BK45002)
    (try clear HB)
    generalize (w19.setCell ⟨gb45001, 0, none⟩ (.int .i64 ji8)) = w21 at n0_ n1_ n2_ n3_ n4_ ⊢
    have HO45007 := n0_
    have HO45010 := n1_
    have BK45001 := n2_
    have BK45002 := n3_
    have HB := n4_
    clear n0_ n1_ n2_ n3_ n4_
    have hcz22_0 : w21.cell? ⟨gb45001, 0, none⟩ = some (.int .i64 ji8) := (blk_cell BK45001.out 0).trans rfl
    have hcz22_1 : w21.cell? ⟨gb45001, 1, none⟩ = some (.slice Ao16 t45005.length co16) := (blk_cell BK45001.out 1).trans rfl
    have hcz22_2 : w21.cell? ⟨gb45001, 2, none⟩ = some (.slice (some ad45011) t45008.length co17) := (blk_cell BK45001.out 2).trans rfl
    have hfz22_0 := blk_frozen BK45001.out 0
    have hfz22_1 := blk_frozen BK45001.out 1
    have hfz22_2 := blk_frozen BK45001.out 2
    try go_wp2_with (first | ((with_reducible refine gate_callee (f := 73) rfl ?_); refine goesL_ (some 28) rfl rfl Try.func73 (by kernel_rfl) rfl #[.slice (some ad45011) t45008.length co17, .int .i64 a1, .int .i64 (wrap64 (a1 + 1))] rfl (by (try simp only [List.map_toArray, List.map_cons, List.map_nil]); first | done | rfl | (simp only [List.length_drop, List.length_take]; rfl)) ?_; (with_reducible refine (slices_Delete_int_int.calls (fun k_ => some k_ = (.slice (some ad45011) t45008.length co17 : Value).ownBlock) (.slice (some ad45011) t45008.length co17) t45008 a1 (wrap64 (a1 + 1)) t45012 w _ ?side1 ?side2 A9.out).mono ?_); (case side1 => repeat (first | (with_reducible first | exact HB.out | apply bA | apply bN | apply b1 | refine bS ?_ GE45001.out | refine bS ?_ GE45002.out) | exact HB.out)); (case side2 => exact Kd.R_tight rfl HO45010.out); rintro e w23 ⟨v45013, rfl, ho0, hb, hkp⟩; refine ⟨_, rfl, ?_⟩; have n0_ := Aside0.mk (blk_kept (blk_ext BK45001.out) hkp (fun hs_ => (fun e_ => (Kd.R_ne HO45010.out BK45001.out (by decide)) e_) hs_)); have n1_ := Aside0.mk (blk_kept (blk_ext BK45002.out) hkp (fun hs_ => (fun e_ => (Kd.R_ne HO45010.out BK45002.out (by decide)) e_) hs_)); have n2_ := Aside0.mk (Kd.R_mono (ok' := fun k_ => some k_ ≠ (v45013 : Value).ownBlock) (Kd.R_keptB (HO45007.out) hkp (fun k_ hk_ hs_ => (hk_) hs_)) (fun k_ hk_ => fun e_ => Or.elim (ho0.1 k_ e_.symm) (fun hs_ => hk_.2.1 hs_) (fun hn_ => Nat.not_le.2 hk_.2.2 hn_))); have n3_ := Aside0.mk (Kd.R_mono (ok' := fun k_ => some k_ ≠ (.slice Ao16 t45005.length co16 : Value).ownBlock) ho0 (fun k_ hk_ => Or.elim hk_ (fun hs_ => fun e_ => (((HO45007.out).1 k_ e_.symm)) hs_) (fun hn_ => (Kd.fresh' (Kd.R_lt (Kd.R_ext HO45007.out)) k_ hn_)))); have n4_ := Aside0.mk (hb); clear BK45001; clear BK45002; clear HO45007; clear HB; clear HO45010; have BK45001 := n0_; have BK45002 := n1_; have HO45007 := n2_; have HO45014 := n3_; have HB := n4_; clear n0_ n1_ n2_ n3_ n4_; (try clear hb); (try clear hkp); (try clear ho0); obtain ⟨Ao24, co24, eo24⟩ := Kd.R_slice HO45014.out; subst eo24; have hcz25_0 : w23.cell? ⟨gb45001, 0, none⟩ = some (.int .i64 ji8) := (blk_cell BK45001.out 0).trans rfl; have hcz25_1 : w23.cell? ⟨gb45001, 1, none⟩ = some (.slice Ao16 t45005.length co16) := (blk_cell BK45001.out 1).trans rfl; have hcz25_2 : w23.cell? ⟨gb45001, 2, none⟩ = some (.slice (some ad45011) t45008.length co17) := (blk_cell BK45001.out 2).trans rfl; have hfz25_0 := blk_frozen BK45001.out 0; have hfz25_1 := blk_frozen BK45001.out 1; have hfz25_2 := blk_frozen BK45001.out 2; have hcz26_0 : w23.cell? ⟨gb45002, 0, none⟩ = some (.int .i64 0) := (blk_cell BK45002.out 0).trans rfl; have hcz26_1 : w23.cell? ⟨gb45002, 1, none⟩ = some (.slice none 0 0) := (blk_cell BK45002.out 1).trans rfl; have hcz26_2 : w23.cell? ⟨gb45002, 2, none⟩ = some (.slice none 0 0) := (blk_cell BK45002.out 2).trans rfl; have hfz26_0 := blk_frozen BK45002.out 0; have hfz26_1 := blk_frozen BK45002.out 1; have hfz26_2 := blk_frozen BK45002.out 2))
    refine bodyPost_ret (results_ct rfl _ _ gb45002 44 #[.int .i64 ji8, .slice Ao16 t45005.length co16, .slice Ao24 t45012.length co24] (0, 0) _ rfl (by (with_reducible repeat (first | refine blk_drewN ?_ _ | refine blk_drew ?_ | refine blk_alloc ?_ _)); refine blk_put (cs := #[.int .i64 ji8, .slice Ao16 t45005.length co16, .slice none 0 0]) ?_ 2 _ rfl; (with_reducible repeat (first | refine blk_drewN ?_ _ | refine blk_drew ?_ | refine blk_alloc ?_ _)); refine blk_put (cs := #[.int .i64 ji8, .slice none 0 0, .slice none 0 0]) ?_ 1 _ rfl; (with_reducible repeat (first | refine blk_drewN ?_ _ | refine blk_drew ?_ | refine blk_alloc ?_ _)); refine blk_put (cs := #[.int .i64 0, .slice none 0 0, .slice none 0 0]) ?_ 0 _ rfl; (with_reducible repeat (first | refine blk_drewN ?_ _ | refine blk_drew ?_ | refine blk_alloc ?_ _)); refine blk_far ?_ NB45002_45001.out _; exact blk_ext BK45002.out) Try.underlying44 rfl (by kernel_rfl)) rfl ?_
    exact ⟨_, _, by first | rfl | (simp [errW_none, errW_some] <;> rfl) | (simp only [← hji8]; first | rfl | (simp [errW_none, errW_some] <;> rfl)) | (simp [*, errW_none, errW_some] <;> rfl), Kd.R_ext (Kd.R_mono (Kd.R_far (p := ⟨gb45002, 2, none⟩) (Kd.R_far (p := ⟨gb45002, 1, none⟩) (Kd.R_far (p := ⟨gb45002, 0, none⟩) (Kd.R_far (p := ⟨gb45001, 2, none⟩) (Kd.R_types (Kd.R_types HO45007.out BK45001.out (by decide)) BK45002.out (by decide)) (fun _ hk => hk.1.2) (.slice Ao24 t45012.length co24)) (fun _ hk => hk.2) (.int .i64 ji8)) (fun _ hk => hk.2) (.slice Ao16 t45005.length co16)) (fun _ hk => hk.2) (.slice Ao24 t45012.length co24)) (fun _ hk => hk.1.1)), Kd.R_ext (Kd.R_mono (Kd.R_far (p := ⟨gb45002, 2, none⟩) (Kd.R_far (p := ⟨gb45002, 1, none⟩) (Kd.R_far (p := ⟨gb45002, 0, none⟩) (Kd.R_far (p := ⟨gb45001, 2, none⟩) (Kd.R_types (Kd.R_types HO45014.out BK45001.out (by decide)) BK45002.out (by decide)) (fun _ hk => hk.1.2) (.slice Ao24 t45012.length co24)) (fun _ hk => hk.2) (.int .i64 ji8)) (fun _ hk => hk.2) (.slice Ao16 t45005.length co16)) (fun _ hk => hk.2) (.slice Ao24 t45012.length co24)) (fun _ hk => hk.1.1)), below_extB HB.out⟩
  · replace c4 := Bool.eq_false_iff.mpr c4
    subst c4
    have H1 : (some (0, ([] : List Int), ([] : List Int), 2)) = some (r1, r2, r3, r4) := by rw [if_neg (show ¬ (false = true) by decide)] at H; exact H
    clear H
    have H := H1
    clear H1
    simp only [Option.some.injEq, Prod.mk.injEq] at H
    obtain ⟨rfl, rfl, rfl, rfl⟩ := H
    go_enter Try.func45, Try.ntmps45
    go_wp2_with (first | ((with_reducible refine gate_dst (N := 2) rfl ?_); refine box_event ?hg (N := 2) ?hd (cs := #[.int .i64 a0_0, .slice A0_1 l0_1.length c0_1, .slice A0_2 l0_2.length c0_2]) (t := 44) ?hr ?_; (case hd => rfl); (case hg => rfl); (case hr => first | (go_simp; done) | (go_simp; rfl)); intro gb45001 hg w27 hbox hb; have n1_ := Aside0.mk (hbox); have n2_ := Aside0.mk ((by rw [hg]; exact (below_size (below_ext HB.out)) : w.heap.size ≤ gb45001)); have n3_ := Aside0.mk ((by rw [hg]; exact (below_size (below_ext HB.out)) : w.heap.size ≤ gb45001)); have BK45001 := n1_; have GW45001 := n2_; have GE45001 := n3_; have GI45001 := GE_.mk GE45001.out; replace HB := mvH HB hb; clear n1_ n2_ n3_; clear hb hbox hg) | ((with_reducible refine gate_dst (N := 4) rfl ?_); refine box_event ?hg (N := 4) ?hd (cs := #[.int .i64 0, .slice none 0 0, .slice none 0 0]) (t := 44) ?hr ?_; (case hd => rfl); (case hg => rfl); (case hr => first | (go_simp; done) | (go_simp; rfl)); intro gb45002 hg w28 hbox hb; have n2_ := Aside0.mk (hbox); have n3_ := Aside0.mk ((by rw [hg]; exact (below_size (below_extB HB.out)) : w.heap.size ≤ gb45002)); have n4_ := Aside0.mk ((by rw [hg]; exact (below_size (below_extB HB.out)) : w.heap.size ≤ gb45002)); have n5_ := Aside0.mk ((by rw [hg]; exact Nat.ne_of_lt (blk_lt (blk_ext BK45001.out)) : gb45001 ≠ gb45002)); have n6_ := Aside0.mk ((by rw [hg]; exact Nat.ne_of_gt (blk_lt (blk_ext BK45001.out)) : gb45002 ≠ gb45001)); have BK45002 := n2_; have GW45002 := n3_; have GE45002 := n4_; have GI45002 := GE_.mk GE45002.out; have NB45001_45002 := n5_; have NI45001_45002 := NE_.mk NB45001_45002.out; have NB45002_45001 := n6_; have NI45002_45001 := NE_.mk NB45002_45001.out; replace BK45001 := mvB BK45001 hb; replace HB := mvH HB hb; clear n2_ n3_ n4_ n5_ n6_; clear hb hbox hg; have hnb29 := NB45001_45002.out; have hnc29 := NB45002_45001.out; have hcz30_0 : w28.cell? ⟨gb45001, 0, none⟩ = some (.int .i64 a0_0) := (blk_cell BK45001.out 0).trans rfl; have hcz30_1 : w28.cell? ⟨gb45001, 1, none⟩ = some (.slice A0_1 l0_1.length c0_1) := (blk_cell BK45001.out 1).trans rfl; have hcz30_2 : w28.cell? ⟨gb45001, 2, none⟩ = some (.slice A0_2 l0_2.length c0_2) := (blk_cell BK45001.out 2).trans rfl; have hfz30_0 := blk_frozen BK45001.out 0; have hfz30_1 := blk_frozen BK45001.out 1; have hfz30_2 := blk_frozen BK45001.out 2) | ((with_reducible refine gate_callee (f := 71) rfl ?_); refine goesL_ (some 9) rfl rfl Try.func71 (by kernel_rfl) rfl #[.slice A0_2 l0_2.length c0_2, .int .i64 a1] rfl (by (try simp only [List.map_toArray, List.map_cons, List.map_nil]); first | done | rfl | (simp only [List.length_drop, List.length_take]; rfl)) ?_; (with_reducible refine (channel_has.calls _ _ l0_2 a1 false _ ?side1 ?side2 A3.out).mono ?_); (case side1 => repeat (first | exact (Kd.C_below HR0_2.out HB.out) | (with_reducible refine Kd.C_alloc ?_ _) | (with_reducible refine Kd.C_drewN ?_ _) | (with_reducible refine Kd.C_drew ?_))); (case side2 => exact HC0_2.out); rintro e w' ⟨rfl, ⟨nd, rfl⟩⟩; refine ⟨_, rfl, ?_⟩; (try (rw [drewN_self w28]; generalize hq_ : World.drewN w28 _ = w28; have n0_ : Aside0 (w28.heap[gb45001]? = some (.cells #[.int .i64 a0_0, .slice A0_1 l0_1.length c0_1, .slice A0_2 l0_2.length c0_2] 44 (0, 0))) := ⟨by rw [← hq_]; exact (blk_ext BK45001.out)⟩; have n1_ : Aside0 (w28.heap[gb45002]? = some (.cells #[.int .i64 0, .slice none 0 0, .slice none 0 0] 44 (0, 0))) := ⟨by rw [← hq_]; exact (blk_ext BK45002.out)⟩; have n2_ : Aside0 (Below w.heap.size w w28) := ⟨by rw [← hq_]; exact (below_extB HB.out)⟩; clear BK45001 BK45002 HB hq_; have BK45001 := n0_; have BK45002 := n1_; have HB := n2_; clear n0_ n1_ n2_)); (try have hcz30_0 : w28.cell? ⟨gb45001, 0, none⟩ = some (.int .i64 a0_0) := (blk_cell BK45001.out 0).trans rfl); (try have hcz30_1 : w28.cell? ⟨gb45001, 1, none⟩ = some (.slice A0_1 l0_1.length c0_1) := (blk_cell BK45001.out 1).trans rfl); (try have hcz30_2 : w28.cell? ⟨gb45001, 2, none⟩ = some (.slice A0_2 l0_2.length c0_2) := (blk_cell BK45001.out 2).trans rfl); have hcz31_0 : w28.cell? ⟨gb45002, 0, none⟩ = some (.int .i64 0) := (blk_cell BK45002.out 0).trans rfl; have hcz31_1 : w28.cell? ⟨gb45002, 1, none⟩ = some (.slice none 0 0) := (blk_cell BK45002.out 1).trans rfl; have hcz31_2 : w28.cell? ⟨gb45002, 2, none⟩ = some (.slice none 0 0) := (blk_cell BK45002.out 2).trans rfl; have hfz31_0 := blk_frozen BK45002.out 0; have hfz31_1 := blk_frozen BK45002.out 1; have hfz31_2 := blk_frozen BK45002.out 2))
    refine bodyPost_ret (results_ct rfl _ _ gb45002 44 #[.int .i64 0, .slice none 0 0, .slice none 0 0] (0, 0) _ rfl (by (with_reducible repeat (first | refine blk_drewN ?_ _ | refine blk_drew ?_ | refine blk_alloc ?_ _)); refine blk_put (cs := #[.int .i64 0, .slice none 0 0, .slice none 0 0]) ?_ 2 _ rfl; (with_reducible repeat (first | refine blk_drewN ?_ _ | refine blk_drew ?_ | refine blk_alloc ?_ _)); refine blk_put (cs := #[.int .i64 0, .slice none 0 0, .slice none 0 0]) ?_ 1 _ rfl; (with_reducible repeat (first | refine blk_drewN ?_ _ | refine blk_drew ?_ | refine blk_alloc ?_ _)); refine blk_put (cs := #[.int .i64 0, .slice none 0 0, .slice none 0 0]) ?_ 0 _ rfl; exact blk_ext BK45002.out) Try.underlying44 rfl (by kernel_rfl)) rfl ?_
    exact ⟨_, _, by first | rfl | (simp [errW_none, errW_some] <;> rfl) | (simp [*, errW_none, errW_some] <;> rfl), by first | exact Kd.R_nil _ _ _ _ _ | exact Kd.N_nil _ _ _ _ _ | exact Kd.V_nil _ _ _ _ _ | exact Kd.Q_nil _ _ _ _ _ | exact Kd.S_nil _ _ _ _ _, by first | exact Kd.R_nil _ _ _ _ _ | exact Kd.N_nil _ _ _ _ _ | exact Kd.V_nil _ _ _ _ _ | exact Kd.Q_nil _ _ _ _ _ | exact Kd.S_nil _ _ _ _ _, below_extB HB.out⟩

end Go.Proofs.Ytfljnggpnndmkaa.Z
