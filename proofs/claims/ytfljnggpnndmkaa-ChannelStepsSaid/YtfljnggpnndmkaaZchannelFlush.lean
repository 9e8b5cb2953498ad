/- Written by a program of this session: each Go function as a plain Lean function, and that the machine's call does what it says. Conditions: none but those each theorem states. -/
import Derived.Test.YtfljnggpnndmkaaZ0
import Derived.Test.YtfljnggpnndmkaaZchannelTransmit
import Derived.Test.YtfljnggpnndmkaaZchannelDeliver
import Derived.Test.YtfljnggpnndmkaaZchannelConfirm
namespace Go.Proofs.Ytfljnggpnndmkaa.Z
open Go.RowKit Go.Proofs.YtfljnggpnndmkaaW.PrintWords Go.Proofs.YtfljnggpnndmkaaW.PrintLast Go.Proofs.YtfljnggpnndmkaaW.PrintMore
attribute [local go_sem] max2_int min2_int max_two min_two max_three min_three max_four min_four   -- for this text's walks alone
set_option linter.unusedVariables false
set_option linter.unusedSimpArgs false

/-! ### channel_Flush: function 33 -/
mutual
def channel_Flush.j0 : Nat → Int → Bool → Int → List Int → List Int → Option (Int × List Int × List Int × Int × Int)
  | 0, _, _, _, _, _ => none
  | k + 1, x2, x26, x33002000, x33002001, x33002002 => if x26 = true then (some (0, ([] : List Int), ([] : List Int), 0, 2)) else (channel_Flush.l1 k x2 x33002000 x33002001 x33002002)
def channel_Flush.l1 : Nat → Int → Int → List Int → List Int → Option (Int × List Int × List Int × Int × Int)
  | 0, _, _, _, _ => none
  | k + 1, x2, x33002000, x33002001, x33002002 => if (x33002001.length : Int) > 0 then ((channel_Deliver.f k x33002000 x33002001 x33002002 0 x2).bind fun bt33011 => (if bt33011.2.2.2.1 = (wrap64 (x2 + 1)) then (channel_Flush.l1 k (wrap64 (x2 + 1)) bt33011.1 bt33011.2.1 bt33011.2.2.1) else (channel_Flush.l1 k x2 bt33011.1 bt33011.2.1 bt33011.2.2.1))) else (channel_Flush.l0 k x2 x33002000 x33002001 x33002002)
def channel_Flush.l0 : Nat → Int → Int → List Int → List Int → Option (Int × List Int × List Int × Int × Int)
  | 0, _, _, _, _ => none
  | k + 1, x2, x33002000, x33002001, x33002002 => if (x33002002.length : Int) > 0 then ((channel_Confirm.f x33002000 x33002001 x33002002 0).bind fun bt33020 => (channel_Flush.l0 k x2 bt33020.1 bt33020.2.1 bt33020.2.2.1)) else (some (x33002000, x33002001, x33002002, x2, 0))
end
def channel_Flush.f (k : Nat) (a0_0 : Int) (l0_1 : List Int) (l0_2 : List Int) (a1 : Int) (a2 : Int) : Option (Int × List Int × List Int × Int × Int) := (channel_Transmit.f k a0_0 l0_1 l0_2 a1).bind fun bt33003 => (if bt33003.2.2.2 = 0 then (if a2 < 0 then (channel_Flush.j0 k a2 true bt33003.1 bt33003.2.1 bt33003.2.2.1) else (channel_Flush.j0 k a2 (decide (a2 > 999000)) bt33003.1 bt33003.2.1 bt33003.2.2.1)) else (some (0, ([] : List Int), ([] : List Int), 0, bt33003.2.2.2)))
theorem channel_Flush.mono_l : ∀ k, (∀ y0 y1 y2 y3 y4, LeO (channel_Flush.j0 k y0 y1 y2 y3 y4) (channel_Flush.j0 (k + 1) y0 y1 y2 y3 y4)) ∧ (∀ y0 y1 y2 y3, LeO (channel_Flush.l1 k y0 y1 y2 y3) (channel_Flush.l1 (k + 1) y0 y1 y2 y3)) ∧ (∀ y0 y1 y2 y3, LeO (channel_Flush.l0 k y0 y1 y2 y3) (channel_Flush.l0 (k + 1) y0 y1 y2 y3))
  | 0 => ⟨fun _ _ _ _ _ r h => by simp [channel_Flush.j0] at h, fun _ _ _ _ r h => by simp [channel_Flush.l1] at h, fun _ _ _ _ r h => by simp [channel_Flush.l0] at h⟩
  | k + 1 => by
    obtain ⟨ih0, ih1, ih2⟩ := channel_Flush.mono_l k
    refine ⟨?_, ?_, ?_⟩
    · intro y0 y1 y2 y3 y4
      unfold channel_Flush.j0
      repeat' first
      | (with_reducible exact ih0 _ _ _ _ _)
      | (with_reducible exact ih1 _ _ _ _)
      | (with_reducible exact ih2 _ _ _ _)
      | (with_reducible exact channel_Deliver.mono _ _ _ _ _ _)
      | (with_reducible exact channel_Transmit.mono _ _ _ _ _)
      | (with_reducible exact LeO.refl _)
      | (with_reducible exact LeO.none _)
      | (with_reducible refine LeO.ite ?_ ?_)
      | (with_reducible refine LeO.bind ?_ (fun _ => ?_))
      | exact ih0 _ _ _ _ _
      | exact ih1 _ _ _ _
      | exact ih2 _ _ _ _
      | exact channel_Deliver.mono _ _ _ _ _ _
      | exact channel_Transmit.mono _ _ _ _ _
      | exact LeO.none _
      | refine LeO.ite ?_ ?_
      | refine LeO.bind ?_ (fun _ => ?_)
    · intro y0 y1 y2 y3
      unfold channel_Flush.l1
      repeat' first
      | (with_reducible exact ih0 _ _ _ _ _)
      | (with_reducible exact ih1 _ _ _ _)
      | (with_reducible exact ih2 _ _ _ _)
      | (with_reducible exact channel_Deliver.mono _ _ _ _ _ _)
      | (with_reducible exact channel_Transmit.mono _ _ _ _ _)
      | (with_reducible exact LeO.refl _)
      | (with_reducible exact LeO.none _)
      | (with_reducible refine LeO.ite ?_ ?_)
      | (with_reducible refine LeO.bind ?_ (fun _ => ?_))
      | exact ih0 _ _ _ _ _
      | exact ih1 _ _ _ _
      | exact ih2 _ _ _ _
      | exact channel_Deliver.mono _ _ _ _ _ _
      | exact channel_Transmit.mono _ _ _ _ _
      | exact LeO.none _
      | refine LeO.ite ?_ ?_
      | refine LeO.bind ?_ (fun _ => ?_)
    · intro y0 y1 y2 y3
      unfold channel_Flush.l0
      repeat' first
      | (with_reducible exact ih0 _ _ _ _ _)
      | (with_reducible exact ih1 _ _ _ _)
      | (with_reducible exact ih2 _ _ _ _)
      | (with_reducible exact channel_Deliver.mono _ _ _ _ _ _)
      | (with_reducible exact channel_Transmit.mono _ _ _ _ _)
      | (with_reducible exact LeO.refl _)
      | (with_reducible exact LeO.none _)
      | (with_reducible refine LeO.ite ?_ ?_)
      | (with_reducible refine LeO.bind ?_ (fun _ => ?_))
      | exact ih0 _ _ _ _ _
      | exact ih1 _ _ _ _
      | exact ih2 _ _ _ _
      | exact channel_Deliver.mono _ _ _ _ _ _
      | exact channel_Transmit.mono _ _ _ _ _
      | exact LeO.none _
      | refine LeO.ite ?_ ?_
      | refine LeO.bind ?_ (fun _ => ?_)
theorem channel_Flush.mono : ∀ a0 a1 a2 a3 a4 k, LeO (channel_Flush.f k a0 a1 a2 a3 a4) (channel_Flush.f (k + 1) a0 a1 a2 a3 a4) := by
  intro a0 a1 a2 a3 a4 k
  obtain ⟨ih0, ih1, ih2⟩ := channel_Flush.mono_l k
  unfold channel_Flush.f
  repeat' first
      | (with_reducible exact ih0 _ _ _ _ _)
      | (with_reducible exact ih1 _ _ _ _)
      | (with_reducible exact ih2 _ _ _ _)
      | (with_reducible exact channel_Deliver.mono _ _ _ _ _ _)
      | (with_reducible exact channel_Transmit.mono _ _ _ _ _)
      | (with_reducible exact LeO.refl _)
      | (with_reducible exact LeO.none _)
      | (with_reducible refine LeO.ite ?_ ?_)
      | (with_reducible refine LeO.bind ?_ (fun _ => ?_))
      | exact ih0 _ _ _ _ _
      | exact ih1 _ _ _ _
      | exact ih2 _ _ _ _
      | exact channel_Deliver.mono _ _ _ _ _ _
      | exact channel_Transmit.mono _ _ _ _ _
      | exact LeO.none _
      | refine LeO.ite ?_ ?_
      | refine LeO.bind ?_ (fun _ => ?_)
set_option maxHeartbeats 8000000 in
set_option maxRecDepth 100000 in
theorem channel_Flush.calls (k : Nat) (a0_0 : Int) (A0_1 : Option Addr) (c0_1 : Nat) (l0_1 : List Int) (A0_2 : Option Addr) (c0_2 : Nat) (l0_2 : List Int) (a1 : Int) (a2 : Int) (r1 : Int) (r2 : List Int) (r3 : List Int) (r4 : Int) (r5 : Int) (w : World) (hr0_1 : Kd.C (Kd.int .i64) w A0_1 l0_1.length l0_1) (hc0_1 : l0_1.length ≤ c0_1) (hr0_2 : Kd.C (Kd.int .i64) w A0_2 l0_2.length l0_2) (hc0_2 : l0_2.length ≤ c0_2) (h : channel_Flush.f k a0_0 l0_1 l0_2 a1 a2 = some (r1, r2, r3, r4, r5)) :
    Calls Try.prog 33 #[.agg #[.int .i64 a0_0, .slice A0_1 l0_1.length c0_1, .slice A0_2 l0_2.length c0_2], .int .i64 a1, .int .i64 a2] w fun e w' => ∃ v1_ v2_ : Value, e = .returned (.tuple #[.agg #[.int .i64 r1, v1_, v2_], .int .i64 r4, .int .i64 r5]) ∧ Kd.R (Kd.int .i64) 3 w' w.heap.size (fun k_ => some k_ ≠ (v2_ : Value).ownBlock) v1_ r2 ∧ Kd.R (Kd.int .i64) 3 w' w.heap.size (fun k_ => some k_ ≠ (v1_ : Value).ownBlock) v2_ r3 ∧ Below w.heap.size w w' := by
  have hu44 := Try.underlying44
  have HR0_1 := Aside0.mk hr0_1
  have HC0_1 := Aside0.mk hc0_1
  clear hr0_1 hc0_1
  have HR0_2 := Aside0.mk hr0_2
  have HC0_2 := Aside0.mk hc0_2
  clear hr0_2 hc0_2
  have HB := Aside0.mk (Below.refl w.heap.size w)
  have H : ((channel_Transmit.f k a0_0 l0_1 l0_2 a1).bind fun bt33003 => (if bt33003.2.2.2 = 0 then (if a2 < 0 then (channel_Flush.j0 k a2 true bt33003.1 bt33003.2.1 bt33003.2.2.1) else (channel_Flush.j0 k a2 (decide (a2 > 999000)) bt33003.1 bt33003.2.1 bt33003.2.2.1)) else (some (0, ([] : List Int), ([] : List Int), 0, bt33003.2.2.2)))) = some (r1, r2, r3, r4, r5) := h
  clear h
  go_enter Try.func33, Try.ntmps33
  go_wp2_with (first | ((with_reducible refine gate_dst (N := 3) rfl ?_); refine box_event ?hg (N := 3) ?hd (cs := #[.int .i64 a0_0, .slice A0_1 l0_1.length c0_1, .slice A0_2 l0_2.length c0_2]) (t := 44) ?hr ?_; (case hd => rfl); (case hg => rfl); (case hr => first | (go_simp; done) | (go_simp; rfl)); intro gb33001 hg w4 hbox hb; have n1_ := Aside0.mk (hbox); have n2_ := Aside0.mk ((by rw [hg]; exact (below_size (below_ext HB.out)) : w.heap.size ≤ gb33001)); have n3_ := Aside0.mk ((by rw [hg]; exact (below_size (below_ext HB.out)) : w.heap.size ≤ gb33001)); have BK33001 := n1_; have GW33001 := n2_; have GE33001 := n3_; have GI33001 := GE_.mk GE33001.out; replace HB := mvH HB hb; clear n1_ n2_ n3_; clear hb hbox hg) | ((with_reducible refine gate_dst (N := 6) rfl ?_); refine box_event ?hg (N := 6) ?hd (cs := #[.int .i64 0, .slice none 0 0, .slice none 0 0]) (t := 44) ?hr ?_; (case hd => rfl); (case hg => rfl); (case hr => first | (go_simp; done) | (go_simp; rfl)); intro gb33002 hg w5 hbox hb; have n2_ := Aside0.mk (hbox); have n3_ := Aside0.mk ((by rw [hg]; exact (below_size (below_extB HB.out)) : w.heap.size ≤ gb33002)); have n4_ := Aside0.mk ((by rw [hg]; exact (below_size (below_extB HB.out)) : w.heap.size ≤ gb33002)); have n5_ := Aside0.mk ((by rw [hg]; exact Nat.ne_of_lt (blk_lt (blk_ext BK33001.out)) : gb33001 ≠ gb33002)); have n6_ := Aside0.mk ((by rw [hg]; exact Nat.ne_of_gt (blk_lt (blk_ext BK33001.out)) : gb33002 ≠ gb33001)); have BK33002 := n2_; have GW33002 := n3_; have GE33002 := n4_; have GI33002 := GE_.mk GE33002.out; have NB33001_33002 := n5_; have NI33001_33002 := NE_.mk NB33001_33002.out; have NB33002_33001 := n6_; have NI33002_33001 := NE_.mk NB33002_33001.out; replace BK33001 := mvB BK33001 hb; replace HB := mvH HB hb; clear n2_ n3_ n4_ n5_ n6_; clear hb hbox hg))
  refine wp_scope_label 0 rfl (fun J_ hJ2_ => ?_)
  replace H := Option.bind_eq_some_iff.mp H
  obtain ⟨⟨t33003, t33004, t33007, t33010⟩, A60, H⟩ := H
  replace H : (if t33010 = 0 then (if a2 < 0 then (channel_Flush.j0 k a2 true t33003 t33004 t33007) else (channel_Flush.j0 k a2 (decide (a2 > 999000)) t33003 t33004 t33007)) else (some (0, ([] : List Int), ([] : List Int), 0, t33010))) = some (r1, r2, r3, r4, r5) := H
  have A6 := Aside0.mk A60
  clear A60
  by_cases c7 : t33010 = 0
  · rw [if_pos c7] at H
    have c7b0 : (t33010 == 0) = true := beq_iff_eq.mpr c7
    have c7b1 : (t33010 != 0) = false := bne_eq_false_iff_eq.mpr c7
    clear c7
    have HC8 := Aside0.mk H
    clear H
    have hnb9 := NB33001_33002.out
    have hnc9 := NB33002_33001.out
    have hcz10_0 : w5.cell? ⟨gb33001, 0, none⟩ = some (.int .i64 a0_0) := (blk_cell BK33001.out 0).trans rfl
    have hcz10_1 : w5.cell? ⟨gb33001, 1, none⟩ = some (.slice A0_1 l0_1.length c0_1) := (blk_cell BK33001.out 1).trans rfl
    have hcz10_2 : w5.cell? ⟨gb33001, 2, none⟩ = some (.slice A0_2 l0_2.length c0_2) := (blk_cell BK33001.out 2).trans rfl
    have hfz10_0 := blk_frozen BK33001.out 0
    have hfz10_1 := blk_frozen BK33001.out 1
    have hfz10_2 := blk_frozen BK33001.out 2
    go_upto_region 4 with (first | ((with_reducible refine gate_callee (f := 37) rfl ?_); refine goesL_ (some 14) rfl rfl Try.func37 (by kernel_rfl) rfl #[.agg #[.int .i64 a0_0, .slice A0_1 l0_1.length c0_1, .slice A0_2 l0_2.length c0_2], .int .i64 a1] rfl (by (try simp only [List.map_toArray, List.map_cons, List.map_nil]); first | done | rfl | (simp only [List.length_drop, List.length_take]; rfl)) ?_; (with_reducible refine (channel_Transmit.calls k a0_0 _ _ l0_1 _ _ l0_2 a1 t33003 t33004 t33007 t33010 _ ?side1 ?side2 ?side3 ?side4 A6.out).mono ?_); (case side1 => repeat (first | exact (Kd.C_below HR0_1.out HB.out) | (with_reducible refine Kd.C_alloc ?_ _) | (with_reducible refine Kd.C_drewN ?_ _) | (with_reducible refine Kd.C_drew ?_))); (case side2 => exact HC0_1.out); (case side3 => repeat (first | exact (Kd.C_below HR0_2.out HB.out) | (with_reducible refine Kd.C_alloc ?_ _) | (with_reducible refine Kd.C_drewN ?_ _) | (with_reducible refine Kd.C_drew ?_))); (case side4 => exact HC0_2.out); rintro e w11 ⟨v33005, v33008, rfl, ho0, ho1, hb⟩; refine ⟨_, rfl, ?_⟩; have n0_ := Aside0.mk (Kd.R_lower ho0 (below_size (below_extB HB.out))); have n1_ := Aside0.mk (Kd.R_lower ho1 (below_size (below_extB HB.out))); have HO33006 := n0_; have HO33009 := n1_; replace BK33001 := mvB BK33001 hb; replace BK33002 := mvB BK33002 hb; replace HB := mvH HB hb; clear n0_ n1_; (try clear hb); (try clear hb2); (try clear hk); (try clear hi); (try clear ho0); (try clear ho1); have hcz12_0 : w11.cell? ⟨gb33001, 0, none⟩ = some (.int .i64 a0_0) := (blk_cell BK33001.out 0).trans rfl; have hcz12_1 : w11.cell? ⟨gb33001, 1, none⟩ = some (.slice A0_1 l0_1.length c0_1) := (blk_cell BK33001.out 1).trans rfl; have hcz12_2 : w11.cell? ⟨gb33001, 2, none⟩ = some (.slice A0_2 l0_2.length c0_2) := (blk_cell BK33001.out 2).trans rfl; have hfz12_0 := blk_frozen BK33001.out 0; have hfz12_1 := blk_frozen BK33001.out 1; have hfz12_2 := blk_frozen BK33001.out 2; obtain ⟨Ao13, co13, eo13⟩ := Kd.R_slice HO33006.out; subst eo13; obtain ⟨Ao14, co14, eo14⟩ := Kd.R_slice HO33009.out; subst eo14))
    (try simp only [Act.put, List.setIfInBounds_toArray, List.set_cons_zero, List.set_cons_succ])
    go_cut [26] (fun v26 wc => ∃ (kq : Nat) (x26_7 : Bool), v26 = .bool x26_7 ∧ Aside0 (channel_Flush.j0 kq a2 x26_7 t33003 t33004 t33007 = some (r1, r2, r3, r4, r5)) ∧ Aside0 (kq ≤ k) ∧ Aside0 (Kd.R (Kd.int .i64) 3 wc w.heap.size (fun k_ => some k_ ≠ ((.slice Ao14 t33007.length co14) : Value).ownBlock) (.slice Ao13 t33004.length co13) t33004) ∧ Aside0 (Kd.R (Kd.int .i64) 3 wc w.heap.size (fun k_ => some k_ ≠ ((.slice Ao13 t33004.length co13) : Value).ownBlock) (.slice Ao14 t33007.length co14) t33007) ∧ Aside0 (wc.heap[gb33001]? = some (.cells #[.int .i64 t33003, (.slice Ao13 t33004.length co13), (.slice Ao14 t33007.length co14)] 44 (0, 0))) ∧ Aside0 (wc.heap[gb33002]? = some (.cells #[.int .i64 0, (.slice none 0 0), (.slice none 0 0)] 44 (0, 0))) ∧ Aside0 (Below w.heap.size w wc))
    case first =>
      have H := HC8.out
      clear HC8
      by_cases c15 : a2 < 0
      · rw [if_pos c15] at H
        have c15b0 : decide (a2 < 0) = true := decide_eq_true c15
        clear c15
        (first | rw [c15b0] | (simp only [i64_w, i32_w]; rw [c15b0]) | skip)
        have H' := Aside0.mk H
        clear H
        go_wp2
        go_meet
        case rel => exact ⟨_, (true), (by first | rfl | (simp; done) | (simp [*]; done)), H', ⟨by first | omega | exact Nat.le_refl _⟩, ⟨Kd.R_ext (Kd.R_mono (Kd.R_far (p := ⟨gb33001, 2, none⟩) (Kd.R_far (p := ⟨gb33001, 1, none⟩) (Kd.R_far (p := ⟨gb33001, 0, none⟩) (Kd.R_types HO33006.out BK33001.out (by decide)) (fun _ hk => hk.2) (.int .i64 t33003)) (fun _ hk => hk.2) (.slice Ao13 t33004.length co13)) (fun _ hk => hk.2) (.slice Ao14 t33007.length co14)) (fun _ hk => hk.1))⟩, ⟨Kd.R_ext (Kd.R_mono (Kd.R_far (p := ⟨gb33001, 2, none⟩) (Kd.R_far (p := ⟨gb33001, 1, none⟩) (Kd.R_far (p := ⟨gb33001, 0, none⟩) (Kd.R_types HO33009.out BK33001.out (by decide)) (fun _ hk => hk.2) (.int .i64 t33003)) (fun _ hk => hk.2) (.slice Ao13 t33004.length co13)) (fun _ hk => hk.2) (.slice Ao14 t33007.length co14)) (fun _ hk => hk.1))⟩, ⟨by (with_reducible repeat (first | refine blk_drewN ?_ _ | refine blk_drew ?_ | refine blk_alloc ?_ _)); refine blk_put (cs := #[.int .i64 t33003, .slice Ao13 t33004.length co13, .slice A0_2 l0_2.length c0_2]) ?_ 2 _ rfl; (with_reducible repeat (first | refine blk_drewN ?_ _ | refine blk_drew ?_ | refine blk_alloc ?_ _)); refine blk_put (cs := #[.int .i64 t33003, .slice A0_1 l0_1.length c0_1, .slice A0_2 l0_2.length c0_2]) ?_ 1 _ rfl; (with_reducible repeat (first | refine blk_drewN ?_ _ | refine blk_drew ?_ | refine blk_alloc ?_ _)); refine blk_put (cs := #[.int .i64 a0_0, .slice A0_1 l0_1.length c0_1, .slice A0_2 l0_2.length c0_2]) ?_ 0 _ rfl; exact blk_ext BK33001.out⟩, ⟨blk_extC BK33002.out⟩, ⟨below_extB HB.out⟩⟩
      · rw [if_neg c15] at H
        have c15b0 : decide (a2 < 0) = false := decide_eq_false c15
        clear c15
        (first | rw [c15b0] | (simp only [i64_w, i32_w]; rw [c15b0]) | skip)
        have H' := Aside0.mk H
        clear H
        go_wp2
        go_meet
        case rel => exact ⟨_, (decide (a2 > 999000)), (by first | rfl | (simp; done) | (simp [*]; done)), H', ⟨by first | omega | exact Nat.le_refl _⟩, ⟨Kd.R_ext (Kd.R_mono (Kd.R_far (p := ⟨gb33001, 2, none⟩) (Kd.R_far (p := ⟨gb33001, 1, none⟩) (Kd.R_far (p := ⟨gb33001, 0, none⟩) (Kd.R_types HO33006.out BK33001.out (by decide)) (fun _ hk => hk.2) (.int .i64 t33003)) (fun _ hk => hk.2) (.slice Ao13 t33004.length co13)) (fun _ hk => hk.2) (.slice Ao14 t33007.length co14)) (fun _ hk => hk.1))⟩, ⟨Kd.R_ext (Kd.R_mono (Kd.R_far (p := ⟨gb33001, 2, none⟩) (Kd.R_far (p := ⟨gb33001, 1, none⟩) (Kd.R_far (p := ⟨gb33001, 0, none⟩) (Kd.R_types HO33009.out BK33001.out (by decide)) (fun _ hk => hk.2) (.int .i64 t33003)) (fun _ hk => hk.2) (.slice Ao13 t33004.length co13)) (fun _ hk => hk.2) (.slice Ao14 t33007.length co14)) (fun _ hk => hk.1))⟩, ⟨by (with_reducible repeat (first | refine blk_drewN ?_ _ | refine blk_drew ?_ | refine blk_alloc ?_ _)); refine blk_put (cs := #[.int .i64 t33003, .slice Ao13 t33004.length co13, .slice A0_2 l0_2.length c0_2]) ?_ 2 _ rfl; (with_reducible repeat (first | refine blk_drewN ?_ _ | refine blk_drew ?_ | refine blk_alloc ?_ _)); refine blk_put (cs := #[.int .i64 t33003, .slice A0_1 l0_1.length c0_1, .slice A0_2 l0_2.length c0_2]) ?_ 1 _ rfl; (with_reducible repeat (first | refine blk_drewN ?_ _ | refine blk_drew ?_ | refine blk_alloc ?_ _)); refine blk_put (cs := #[.int .i64 a0_0, .slice A0_1 l0_1.length c0_1, .slice A0_2 l0_2.length c0_2]) ?_ 0 _ rfl; exact blk_ext BK33001.out⟩, ⟨blk_extC BK33002.out⟩, ⟨below_extB HB.out⟩⟩
    case rest =>
      clear HC8
      try clear c1
      try clear p2
      try clear c3
      try clear c7
      try clear c7b0
      try clear c7b1
      try clear c9
      try clear c15
      try clear c15b0
      try clear hcz10_0
      try clear hcz10_1
      try clear hcz10_2
      try clear hcz12_0
      try clear hcz12_1
      try clear hcz12_2
      try clear hfz10_0
      try clear hfz10_1
      try clear hfz10_2
      try clear hfz12_0
      try clear hfz12_1
      try clear hfz12_2
      obtain ⟨kq, x26_7, rfl, HA, HJ7, HO_33002001, HO_33002002, BK33001, BK33002, HB⟩ := hcut
      cases kq with
      | zero => exact absurd HA.out (by simp [channel_Flush.j0])
      | succ kj7 =>
        have H := HA.out
        clear HA
        simp only [channel_Flush.j0] at H
        by_cases c16 : x26_7 = true
        · subst c16
          have H1 : (some (0, ([] : List Int), ([] : List Int), 0, 2)) = some (r1, r2, r3, r4, r5) := by rw [if_pos rfl] at H; exact H
          clear H
          have H := H1
          clear H1
          simp only [Option.some.injEq, Prod.mk.injEq] at H
          obtain ⟨rfl, rfl, rfl, rfl, rfl⟩ := H
          have hnb17 := NB33002_33001.out
          have hnc17 := NB33001_33002.out
          have hcz18_0 : wc.cell? ⟨gb33002, 0, none⟩ = some (.int .i64 0) := (blk_cell BK33002.out 0).trans rfl
          have hcz18_1 : wc.cell? ⟨gb33002, 1, none⟩ = some (.slice none 0 0) := (blk_cell BK33002.out 1).trans rfl
          have hcz18_2 : wc.cell? ⟨gb33002, 2, none⟩ = some (.slice none 0 0) := (blk_cell BK33002.out 2).trans rfl
          have hfz18_0 := blk_frozen BK33002.out 0
          have hfz18_1 := blk_frozen BK33002.out 1
          have hfz18_2 := blk_frozen BK33002.out 2
          go_wp2
          (try simp only [Exit.jump])
          refine bodyPost_ret (results_ctt rfl _ _ gb33002 44 #[.int .i64 0, .slice none 0 0, .slice none 0 0] (0, 0) _ rfl (by (with_reducible repeat (first | refine blk_drewN ?_ _ | refine blk_drew ?_ | refine blk_alloc ?_ _)); refine blk_put (cs := #[.int .i64 0, .slice none 0 0, .slice none 0 0]) ?_ 2 _ rfl; (with_reducible repeat (first | refine blk_drewN ?_ _ | refine blk_drew ?_ | refine blk_alloc ?_ _)); refine blk_put (cs := #[.int .i64 0, .slice none 0 0, .slice none 0 0]) ?_ 1 _ rfl; (with_reducible repeat (first | refine blk_drewN ?_ _ | refine blk_drew ?_ | refine blk_alloc ?_ _)); refine blk_put (cs := #[.int .i64 0, .slice none 0 0, .slice none 0 0]) ?_ 0 _ rfl; exact blk_ext BK33002.out) Try.underlying44 rfl (by kernel_rfl)) rfl ?_
          exact ⟨_, _, by first | rfl | (simp [errW_none, errW_some] <;> rfl) | (simp [*, errW_none, errW_some] <;> rfl), by first | exact Kd.R_nil _ _ _ _ _ | exact Kd.N_nil _ _ _ _ _ | exact Kd.V_nil _ _ _ _ _ | exact Kd.Q_nil _ _ _ _ _ | exact Kd.S_nil _ _ _ _ _, by first | exact Kd.R_nil _ _ _ _ _ | exact Kd.N_nil _ _ _ _ _ | exact Kd.V_nil _ _ _ _ _ | exact Kd.Q_nil _ _ _ _ _ | exact Kd.S_nil _ _ _ _ _, below_extB HB.out⟩
        · replace c16 := Bool.eq_false_iff.mpr c16
          subst c16
          have H1 : (channel_Flush.l1 kj7 a2 t33003 t33004 t33007) = some (r1, r2, r3, r4, r5) := by rw [if_neg (show ¬ (false = true) by decide)] at H; exact H
          clear H
          have H := H1
          clear H1
          have H' := Aside0.mk H
          clear H
          go_wp2
          go_step3
          go_step
          go_step
          refine wp_label_loop 0 hJ2_ (fun a₀ k_ a_ w_ => ∃ u2 u7 u8 u10 u28 u29 u30 u31 u32 u33 u34 u35 u36 u37 u38 u39 u40 u41 u42 u43 u44 u45 u46 u47 u48 u49 u50 u51 u52 u53 u54 u55 : Value, (fun kq v2 w' => ∃ (x2_2 : Int) (x33002000_2 : Int) (x33002001_2 : List Int) (x33002002_2 : List Int) (x33003000_2 : Int) (u33002001 : Value) (u33002002 : Value), v2 = .int .i64 x2_2 ∧ Aside0 (channel_Flush.l1 kq x2_2 x33002000_2 x33002001_2 x33002002_2 = some (r1, r2, r3, r4, r5)) ∧ Aside0 (kq ≤ kj7) ∧ Aside0 (Kd.R (Kd.int .i64) 3 w' w.heap.size (fun k_ => some k_ ≠ (u33002002 : Value).ownBlock) u33002001 x33002001_2) ∧ Aside0 (Kd.R (Kd.int .i64) 3 w' w.heap.size (fun k_ => some k_ ≠ (u33002001 : Value).ownBlock) u33002002 x33002002_2) ∧ Aside0 (w'.heap[gb33001]? = some (.cells #[.int .i64 x33002000_2, u33002001, u33002002] 44 (0, 0))) ∧ Aside0 (w'.heap[gb33002]? = some (.cells #[.int .i64 x33003000_2, (.slice none 0 0), (.slice none 0 0)] 44 (0, 0))) ∧ Aside0 (Below w.heap.size w w')) k_ u2 w_ ∧ a_ = (((((((((((((((((((((((((((((((a₀.put (some 2) u2).put (some 7) u7).put (some 8) u8).put (some 10) u10).put (some 28) u28).put (some 29) u29).put (some 30) u30).put (some 31) u31).put (some 32) u32).put (some 33) u33).put (some 34) u34).put (some 35) u35).put (some 36) u36).put (some 37) u37).put (some 38) u38).put (some 39) u39).put (some 40) u40).put (some 41) u41).put (some 42) u42).put (some 43) u43).put (some 44) u44).put (some 45) u45).put (some 46) u46).put (some 47) u47).put (some 48) u48).put (some 49) u49).put (some 50) u50).put (some 51) u51).put (some 52) u52).put (some 53) u53).put (some 54) u54).put (some 55) u55) kj7 ?lab_ ?round
          case' lab_ => (repeat apply Exists.intro); refine ⟨?atStart, ?fr_⟩
          case fr_ => ((try simp only [Act.put, List.setIfInBounds_toArray, List.set_cons_zero, List.set_cons_succ]); rfl)
          case atStart => exact ⟨(a2), (t33003), (t33004), (t33007), (0), (.slice Ao13 t33004.length co13), (.slice Ao14 t33007.length co14), (by first | rfl | (simp; done) | (simp [*]; done)), H', ⟨Nat.le_refl _⟩, ⟨Kd.R_ext HO_33002001.out⟩, ⟨Kd.R_ext HO_33002002.out⟩, ⟨blk_ext BK33001.out⟩, ⟨blk_ext BK33002.out⟩, ⟨below_extB HB.out⟩⟩
          case round =>
            intro gk _ wr hinv_
            obtain ⟨u2, u7, u8, u10, u28, u29, u30, u31, u32, u33, u34, u35, u36, u37, u38, u39, u40, u41, u42, u43, u44, u45, u46, u47, u48, u49, u50, u51, u52, u53, u54, u55, hrel, ha_⟩ := hinv_
            subst ha_
            (try simp only [Act.put, List.setIfInBounds_toArray, List.set_cons_zero, List.set_cons_succ])
            intro J_ K_ hJ2_ hK_
            clear H'
            try clear c1
            try clear p2
            try clear c3
            try clear p3
            try clear c7
            try clear c7b0
            try clear c7b1
            try clear c9
            try clear c15
            try clear c15b0
            try clear c16
            try clear c17
            try clear hcz10_0
            try clear hcz10_1
            try clear hcz10_2
            try clear hcz12_0
            try clear hcz12_1
            try clear hcz12_2
            try clear hcz18_0
            try clear hcz18_1
            try clear hcz18_2
            try clear hfz10_0
            try clear hfz10_1
            try clear hfz10_2
            try clear hfz12_0
            try clear hfz12_1
            try clear hfz12_2
            try clear hfz18_0
            try clear hfz18_1
            try clear hfz18_2
            try clear p2
            obtain ⟨x2_2, x33002000_2, x33002001_2, x33002002_2, x33003000_2, u33002001, u33002002, rfl, HA, HK2, HO_33002001, HO_33002002, BK33001, BK33002, HB⟩ := hrel
            cases gk with
            | zero => exact absurd HA.out (by simp [channel_Flush.l1])
            | succ k2 =>
              have H := HA.out
              clear HA
              simp only [channel_Flush.l1] at H
              by_cases c19 : (x33002001_2.length : Int) > 0
              · rw [if_pos c19] at H
                have c19b0 : decide (0 < (x33002001_2.length : Int)) = true := decide_eq_true c19
                have c19b1 : decide (0 < x33002001_2.length) = true := decide_eq_true (by omega)
                clear c19
                replace H := Option.bind_eq_some_iff.mp H
                obtain ⟨⟨t33011, t33012, t33015, t33018, t33019⟩, A200, H⟩ := H
                replace H : (if t33018 = (wrap64 (x2_2 + 1)) then (channel_Flush.l1 k2 (wrap64 (x2_2 + 1)) t33011 t33012 t33015) else (channel_Flush.l1 k2 x2_2 t33011 t33012 t33015)) = some (r1, r2, r3, r4, r5) := H
                have A20 := Aside0.mk A200
                clear A200
                by_cases c21 : t33018 = (wrap64 (x2_2 + 1))
                · rw [if_pos c21] at H
                  have c21b0 : (t33018 == (wrap64 (x2_2 + 1))) = true := beq_iff_eq.mpr c21
                  have c21b1 : (t33018 != (wrap64 (x2_2 + 1))) = false := bne_eq_false_iff_eq.mpr c21
                  clear c21
                  have H' := Aside0.mk H
                  clear H
                  have hnb22 := NB33001_33002.out
                  have hnc22 := NB33002_33001.out
                  have hcz23_0 : wr.cell? ⟨gb33001, 0, none⟩ = some (.int .i64 x33002000_2) := (blk_cell BK33001.out 0).trans rfl
                  have hcz23_1 : wr.cell? ⟨gb33001, 1, none⟩ = some (u33002001) := (blk_cell BK33001.out 1).trans rfl
                  have hcz23_2 : wr.cell? ⟨gb33001, 2, none⟩ = some (u33002002) := (blk_cell BK33001.out 2).trans rfl
                  have hfz23_0 := blk_frozen BK33001.out 0
                  have hfz23_1 := blk_frozen BK33001.out 1
                  have hfz23_2 := blk_frozen BK33001.out 2
                  obtain ⟨Ao24, co24, eo24⟩ := Kd.R_slice HO_33002001.out
                  subst eo24
                  obtain ⟨Ao25, co25, eo25⟩ := Kd.R_slice HO_33002002.out
                  subst eo25
                  go_wp2_with (first | ((with_reducible refine gate_callee (f := 39) rfl ?_); refine goesL_ (some 35) rfl rfl Try.func39 (by kernel_rfl) rfl #[.agg #[.int .i64 x33002000_2, .slice Ao24 x33002001_2.length co24, .slice Ao25 x33002002_2.length co25], .int .i64 0, .int .i64 x2_2] rfl (by (try simp only [List.map_toArray, List.map_cons, List.map_nil]); first | done | rfl | (simp only [List.length_drop, List.length_take]; rfl)) ?_; (with_reducible refine (channel_Deliver.calls k2 x33002000_2 _ _ x33002001_2 _ _ x33002002_2 0 x2_2 t33011 t33012 t33015 t33018 t33019 _ ?side1 ?side2 ?side3 ?side4 A20.out).mono ?_); (case side1 => exact Kd.C_ext (Kd.R_reads' HO_33002001.out).2.2); (case side2 => exact (Kd.R_reads' HO_33002001.out).2.1); (case side3 => exact Kd.C_ext (Kd.R_reads' HO_33002002.out).2.2); (case side4 => exact (Kd.R_reads' HO_33002002.out).2.1); rintro e w26 ⟨v33013, v33016, rfl, ho0, ho1, hb⟩; refine ⟨_, rfl, ?_⟩; have n2_ := Aside0.mk (Kd.R_lower (Kd.R_new' (Kd.R_new' ho0 (Kd.R_lt (Kd.R_ext HO_33002001.out))) (Kd.R_lt (Kd.R_ext HO_33002002.out))) (below_size (below_extB HB.out))); have n3_ := Aside0.mk (Kd.R_lower (Kd.R_new' (Kd.R_new' ho1 (Kd.R_lt (Kd.R_ext HO_33002001.out))) (Kd.R_lt (Kd.R_ext HO_33002002.out))) (below_size (below_extB HB.out))); have HO33014 := n2_; have HO33017 := n3_; replace HO_33002001 := tdR2 HO_33002001 hb (Kd.R_base ho0) (Kd.R_base ho1); replace HO_33002002 := tdR2 HO_33002002 hb (Kd.R_base ho0) (Kd.R_base ho1); replace BK33001 := mvB BK33001 hb; replace BK33002 := mvB BK33002 hb; replace HB := mvH HB hb; clear n2_ n3_; (try clear hb); (try clear hb2); (try clear hk); (try clear hi); (try clear ho0); (try clear ho1); have hcz27_0 : w26.cell? ⟨gb33001, 0, none⟩ = some (.int .i64 x33002000_2) := (blk_cell BK33001.out 0).trans rfl; have hcz27_1 : w26.cell? ⟨gb33001, 1, none⟩ = some (.slice Ao24 x33002001_2.length co24) := (blk_cell BK33001.out 1).trans rfl; have hcz27_2 : w26.cell? ⟨gb33001, 2, none⟩ = some (.slice Ao25 x33002002_2.length co25) := (blk_cell BK33001.out 2).trans rfl; have hfz27_0 := blk_frozen BK33001.out 0; have hfz27_1 := blk_frozen BK33001.out 1; have hfz27_2 := blk_frozen BK33001.out 2; obtain ⟨Ao28, co28, eo28⟩ := Kd.R_slice HO33014.out; subst eo28; obtain ⟨Ao29, co29, eo29⟩ := Kd.R_slice HO33017.out; subst eo29))
                  go_step3
                  refine ⟨rfl, hK_ _ _ (Handed.intro k2 ?_ (hJ2_ _ _ _ ?_))⟩
                  · have := HJ7.out; have := HK2.out; omega
                  · (repeat apply Exists.intro)
                    refine ⟨?_, ?_⟩
                    rotate_left
                    ((try simp only [Act.put, List.setIfInBounds_toArray, List.set_cons_zero, List.set_cons_succ]); rfl)
                    exact ⟨(wrap64 (x2_2 + 1)), (t33011), (t33012), (t33015), (x33003000_2), (.slice Ao28 t33012.length co28), (.slice Ao29 t33015.length co29), (by first | rfl | (simp; done) | (simp [*]; done)), H', ⟨by have := HJ7.out; have := HK2.out; omega⟩, ⟨Kd.R_ext (Kd.R_mono (Kd.R_far (p := ⟨gb33001, 2, none⟩) (Kd.R_far (p := ⟨gb33001, 1, none⟩) (Kd.R_far (p := ⟨gb33001, 0, none⟩) (Kd.R_types HO33014.out BK33001.out (by decide)) (fun _ hk => hk.2) (.int .i64 t33011)) (fun _ hk => hk.2) (.slice Ao28 t33012.length co28)) (fun _ hk => hk.2) (.slice Ao29 t33015.length co29)) (fun _ hk => hk.1.1.1))⟩, ⟨Kd.R_ext (Kd.R_mono (Kd.R_far (p := ⟨gb33001, 2, none⟩) (Kd.R_far (p := ⟨gb33001, 1, none⟩) (Kd.R_far (p := ⟨gb33001, 0, none⟩) (Kd.R_types HO33017.out BK33001.out (by decide)) (fun _ hk => hk.2) (.int .i64 t33011)) (fun _ hk => hk.2) (.slice Ao28 t33012.length co28)) (fun _ hk => hk.2) (.slice Ao29 t33015.length co29)) (fun _ hk => hk.1.1.1))⟩, ⟨by (with_reducible repeat (first | refine blk_drewN ?_ _ | refine blk_drew ?_ | refine blk_alloc ?_ _)); refine blk_put (cs := #[.int .i64 t33011, .slice Ao28 t33012.length co28, .slice Ao25 x33002002_2.length co25]) ?_ 2 _ rfl; (with_reducible repeat (first | refine blk_drewN ?_ _ | refine blk_drew ?_ | refine blk_alloc ?_ _)); refine blk_put (cs := #[.int .i64 t33011, .slice Ao24 x33002001_2.length co24, .slice Ao25 x33002002_2.length co25]) ?_ 1 _ rfl; (with_reducible repeat (first | refine blk_drewN ?_ _ | refine blk_drew ?_ | refine blk_alloc ?_ _)); refine blk_put (cs := #[.int .i64 x33002000_2, .slice Ao24 x33002001_2.length co24, .slice Ao25 x33002002_2.length co25]) ?_ 0 _ rfl; exact blk_ext BK33001.out⟩, ⟨blk_extC BK33002.out⟩, ⟨below_extB HB.out⟩⟩
                · rw [if_neg c21] at H
                  have c21b0 : (t33018 == (wrap64 (x2_2 + 1))) = false := beq_eq_false_iff_ne.mpr c21
                  have c21b1 : (t33018 != (wrap64 (x2_2 + 1))) = true := bne_iff_ne.mpr c21
                  have H' := Aside0.mk H
                  clear H
                  have hnb30 := NB33001_33002.out
                  have hnc30 := NB33002_33001.out
                  have hcz31_0 : wr.cell? ⟨gb33001, 0, none⟩ = some (.int .i64 x33002000_2) := (blk_cell BK33001.out 0).trans rfl
                  have hcz31_1 : wr.cell? ⟨gb33001, 1, none⟩ = some (u33002001) := (blk_cell BK33001.out 1).trans rfl
                  have hcz31_2 : wr.cell? ⟨gb33001, 2, none⟩ = some (u33002002) := (blk_cell BK33001.out 2).trans rfl
                  have hfz31_0 := blk_frozen BK33001.out 0
                  have hfz31_1 := blk_frozen BK33001.out 1
                  have hfz31_2 := blk_frozen BK33001.out 2
                  obtain ⟨Ao32, co32, eo32⟩ := Kd.R_slice HO_33002001.out
                  subst eo32
                  obtain ⟨Ao33, co33, eo33⟩ := Kd.R_slice HO_33002002.out
                  subst eo33
                  go_wp2_with (first | ((with_reducible refine gate_callee (f := 39) rfl ?_); refine goesL_ (some 35) rfl rfl Try.func39 (by kernel_rfl) rfl #[.agg #[.int .i64 x33002000_2, .slice Ao32 x33002001_2.length co32, .slice Ao33 x33002002_2.length co33], .int .i64 0, .int .i64 x2_2] rfl (by (try simp only [List.map_toArray, List.map_cons, List.map_nil]); first | done | rfl | (simp only [List.length_drop, List.length_take]; rfl)) ?_; (with_reducible refine (channel_Deliver.calls k2 x33002000_2 _ _ x33002001_2 _ _ x33002002_2 0 x2_2 t33011 t33012 t33015 t33018 t33019 _ ?side1 ?side2 ?side3 ?side4 A20.out).mono ?_); (case side1 => exact Kd.C_ext (Kd.R_reads' HO_33002001.out).2.2); (case side2 => exact (Kd.R_reads' HO_33002001.out).2.1); (case side3 => exact Kd.C_ext (Kd.R_reads' HO_33002002.out).2.2); (case side4 => exact (Kd.R_reads' HO_33002002.out).2.1); rintro e w34 ⟨v33013, v33016, rfl, ho0, ho1, hb⟩; refine ⟨_, rfl, ?_⟩; have n2_ := Aside0.mk (Kd.R_lower (Kd.R_new' (Kd.R_new' ho0 (Kd.R_lt (Kd.R_ext HO_33002001.out))) (Kd.R_lt (Kd.R_ext HO_33002002.out))) (below_size (below_extB HB.out))); have n3_ := Aside0.mk (Kd.R_lower (Kd.R_new' (Kd.R_new' ho1 (Kd.R_lt (Kd.R_ext HO_33002001.out))) (Kd.R_lt (Kd.R_ext HO_33002002.out))) (below_size (below_extB HB.out))); have HO33014 := n2_; have HO33017 := n3_; replace HO_33002001 := tdR2 HO_33002001 hb (Kd.R_base ho0) (Kd.R_base ho1); replace HO_33002002 := tdR2 HO_33002002 hb (Kd.R_base ho0) (Kd.R_base ho1); replace BK33001 := mvB BK33001 hb; replace BK33002 := mvB BK33002 hb; replace HB := mvH HB hb; clear n2_ n3_; (try clear hb); (try clear hb2); (try clear hk); (try clear hi); (try clear ho0); (try clear ho1); have hcz35_0 : w34.cell? ⟨gb33001, 0, none⟩ = some (.int .i64 x33002000_2) := (blk_cell BK33001.out 0).trans rfl; have hcz35_1 : w34.cell? ⟨gb33001, 1, none⟩ = some (.slice Ao32 x33002001_2.length co32) := (blk_cell BK33001.out 1).trans rfl; have hcz35_2 : w34.cell? ⟨gb33001, 2, none⟩ = some (.slice Ao33 x33002002_2.length co33) := (blk_cell BK33001.out 2).trans rfl; have hfz35_0 := blk_frozen BK33001.out 0; have hfz35_1 := blk_frozen BK33001.out 1; have hfz35_2 := blk_frozen BK33001.out 2; obtain ⟨Ao36, co36, eo36⟩ := Kd.R_slice HO33014.out; subst eo36; obtain ⟨Ao37, co37, eo37⟩ := Kd.R_slice HO33017.out; subst eo37))
                  go_step3
                  refine ⟨rfl, hK_ _ _ (Handed.intro k2 ?_ (hJ2_ _ _ _ ?_))⟩
                  · have := HJ7.out; have := HK2.out; omega
                  · (repeat apply Exists.intro)
                    refine ⟨?_, ?_⟩
                    rotate_left
                    ((try simp only [Act.put, List.setIfInBounds_toArray, List.set_cons_zero, List.set_cons_succ]); rfl)
                    exact ⟨(x2_2), (t33011), (t33012), (t33015), (x33003000_2), (.slice Ao36 t33012.length co36), (.slice Ao37 t33015.length co37), (by first | rfl | (simp; done) | (simp [*]; done)), H', ⟨by have := HJ7.out; have := HK2.out; omega⟩, ⟨Kd.R_ext (Kd.R_mono (Kd.R_far (p := ⟨gb33001, 2, none⟩) (Kd.R_far (p := ⟨gb33001, 1, none⟩) (Kd.R_far (p := ⟨gb33001, 0, none⟩) (Kd.R_types HO33014.out BK33001.out (by decide)) (fun _ hk => hk.2) (.int .i64 t33011)) (fun _ hk => hk.2) (.slice Ao36 t33012.length co36)) (fun _ hk => hk.2) (.slice Ao37 t33015.length co37)) (fun _ hk => hk.1.1.1))⟩, ⟨Kd.R_ext (Kd.R_mono (Kd.R_far (p := ⟨gb33001, 2, none⟩) (Kd.R_far (p := ⟨gb33001, 1, none⟩) (Kd.R_far (p := ⟨gb33001, 0, none⟩) (Kd.R_types HO33017.out BK33001.out (by decide)) (fun _ hk => hk.2) (.int .i64 t33011)) (fun _ hk => hk.2) (.slice Ao36 t33012.length co36)) (fun _ hk => hk.2) (.slice Ao37 t33015.length co37)) (fun _ hk => hk.1.1.1))⟩, ⟨by (with_reducible repeat (first | refine blk_drewN ?_ _ | refine blk_drew ?_ | refine blk_alloc ?_ _)); refine blk_put (cs := #[.int .i64 t33011, .slice Ao36 t33012.length co36, .slice Ao33 x33002002_2.length co33]) ?_ 2 _ rfl; (with_reducible repeat (first | refine blk_drewN ?_ _ | refine blk_drew ?_ | refine blk_alloc ?_ _)); refine blk_put (cs := #[.int .i64 t33011, .slice Ao32 x33002001_2.length co32, .slice Ao33 x33002002_2.length co33]) ?_ 1 _ rfl; (with_reducible repeat (first | refine blk_drewN ?_ _ | refine blk_drew ?_ | refine blk_alloc ?_ _)); refine blk_put (cs := #[.int .i64 x33002000_2, .slice Ao32 x33002001_2.length co32, .slice Ao33 x33002002_2.length co33]) ?_ 0 _ rfl; exact blk_ext BK33001.out⟩, ⟨blk_extC BK33002.out⟩, ⟨below_extB HB.out⟩⟩
              · rw [if_neg c19] at H
                have c19b0 : decide (0 < (x33002001_2.length : Int)) = false := decide_eq_false c19
                have c19b1 : decide (0 < x33002001_2.length) = false := decide_eq_false (by omega)
                clear c19
                have H' := Aside0.mk H
                clear H
                have hnb38 := NB33001_33002.out
                have hnc38 := NB33002_33001.out
                have hcz39_0 : wr.cell? ⟨gb33001, 0, none⟩ = some (.int .i64 x33002000_2) := (blk_cell BK33001.out 0).trans rfl
                have hcz39_1 : wr.cell? ⟨gb33001, 1, none⟩ = some (u33002001) := (blk_cell BK33001.out 1).trans rfl
                have hcz39_2 : wr.cell? ⟨gb33001, 2, none⟩ = some (u33002002) := (blk_cell BK33001.out 2).trans rfl
                have hfz39_0 := blk_frozen BK33001.out 0
                have hfz39_1 := blk_frozen BK33001.out 1
                have hfz39_2 := blk_frozen BK33001.out 2
                obtain ⟨Ao40, co40, eo40⟩ := Kd.R_slice HO_33002001.out
                subst eo40
                go_wp2
                go_loopg [] k2 (fun kq w' => ∃ (x33002000_3 : Int) (x33002001_3 : List Int) (x33002002_3 : List Int) (u33002001 : Value) (u33002002 : Value), Aside0 (channel_Flush.l0 kq x2_2 x33002000_3 x33002001_3 x33002002_3 = some (r1, r2, r3, r4, r5)) ∧ Aside0 (kq ≤ k2) ∧ Aside0 (Kd.R (Kd.int .i64) 3 w' w.heap.size (fun k_ => some k_ ≠ (u33002002 : Value).ownBlock) u33002001 x33002001_3) ∧ Aside0 (Kd.R (Kd.int .i64) 3 w' w.heap.size (fun k_ => some k_ ≠ (u33002001 : Value).ownBlock) u33002002 x33002002_3) ∧ Aside0 (w'.heap[gb33001]? = some (.cells #[.int .i64 x33002000_3, u33002001, u33002002] 44 (0, 0))) ∧ Aside0 (w'.heap[gb33002]? = some (.cells #[.int .i64 x33003000_2, (.slice none 0 0), (.slice none 0 0)] 44 (0, 0))) ∧ Aside0 (Below w.heap.size w w'))
                case atStart => exact ⟨(x33002000_2), (x33002001_2), (x33002002_2), (.slice Ao40 x33002001_2.length co40), (u33002002), H', ⟨Nat.le_refl _⟩, ⟨Kd.R_ext HO_33002001.out⟩, ⟨Kd.R_ext HO_33002002.out⟩, ⟨blk_ext BK33001.out⟩, ⟨blk_ext BK33002.out⟩, ⟨below_extB HB.out⟩⟩
                case round =>
                  clear H'
                  try clear c1
                  try clear c2
                  try clear p2
                  try clear c3
                  try clear p3
                  try clear p6
                  try clear c7
                  try clear c7b0
                  try clear c7b1
                  try clear c9
                  try clear c15
                  try clear c15b0
                  try clear c16
                  try clear c17
                  try clear c19
                  try clear c19b0
                  try clear c19b1
                  try clear c21
                  try clear c21b0
                  try clear c21b1
                  try clear c22
                  try clear c30
                  try clear c33
                  try clear c37
                  try clear c38
                  try clear c39
                  try clear hcz10_0
                  try clear hcz10_1
                  try clear hcz10_2
                  try clear hcz12_0
                  try clear hcz12_1
                  try clear hcz12_2
                  try clear hcz18_0
                  try clear hcz18_1
                  try clear hcz18_2
                  try clear hcz23_0
                  try clear hcz23_1
                  try clear hcz23_2
                  try clear hcz27_0
                  try clear hcz27_1
                  try clear hcz27_2
                  try clear hcz31_0
                  try clear hcz31_1
                  try clear hcz31_2
                  try clear hcz35_0
                  try clear hcz35_1
                  try clear hcz35_2
                  try clear hcz39_0
                  try clear hcz39_1
                  try clear hcz39_2
                  try clear hfz10_0
                  try clear hfz10_1
                  try clear hfz10_2
                  try clear hfz12_0
                  try clear hfz12_1
                  try clear hfz12_2
                  try clear hfz18_0
                  try clear hfz18_1
                  try clear hfz18_2
                  try clear hfz23_0
                  try clear hfz23_1
                  try clear hfz23_2
                  try clear hfz27_0
                  try clear hfz27_1
                  try clear hfz27_2
                  try clear hfz31_0
                  try clear hfz31_1
                  try clear hfz31_2
                  try clear hfz35_0
                  try clear hfz35_1
                  try clear hfz35_2
                  try clear hfz39_0
                  try clear hfz39_1
                  try clear hfz39_2
                  try clear p2
                  try clear p3
                  obtain ⟨x33002000_3, x33002001_3, x33002002_3, u33002001, u33002002, HA, HK3, HO_33002001, HO_33002002, BK33001, BK33002, HB⟩ := hrel
                  cases gk with
                  | zero => exact absurd HA.out (by simp [channel_Flush.l0])
                  | succ k3 =>
                    have H := HA.out
                    clear HA
                    simp only [channel_Flush.l0] at H
                    by_cases c41 : (x33002002_3.length : Int) > 0
                    · rw [if_pos c41] at H
                      have c41b0 : decide (0 < (x33002002_3.length : Int)) = true := decide_eq_true c41
                      have c41b1 : decide (0 < x33002002_3.length) = true := decide_eq_true (by omega)
                      clear c41
                      replace H := Option.bind_eq_some_iff.mp H
                      obtain ⟨⟨t33020, t33021, t33024, t33027⟩, A420, H⟩ := H
                      replace H : (channel_Flush.l0 k3 x2_2 t33020 t33021 t33024) = some (r1, r2, r3, r4, r5) := H
                      have A42 := Aside0.mk A420
                      clear A420
                      have H' := Aside0.mk H
                      clear H
                      have hnb43 := NB33001_33002.out
                      have hnc43 := NB33002_33001.out
                      have hcz44_0 : wr.cell? ⟨gb33001, 0, none⟩ = some (.int .i64 x33002000_3) := (blk_cell BK33001.out 0).trans rfl
                      have hcz44_1 : wr.cell? ⟨gb33001, 1, none⟩ = some (u33002001) := (blk_cell BK33001.out 1).trans rfl
                      have hcz44_2 : wr.cell? ⟨gb33001, 2, none⟩ = some (u33002002) := (blk_cell BK33001.out 2).trans rfl
                      have hfz44_0 := blk_frozen BK33001.out 0
                      have hfz44_1 := blk_frozen BK33001.out 1
                      have hfz44_2 := blk_frozen BK33001.out 2
                      obtain ⟨Ao45, co45, eo45⟩ := Kd.R_slice HO_33002002.out
                      subst eo45
                      obtain ⟨Ao46, co46, eo46⟩ := Kd.R_slice HO_33002001.out
                      subst eo46
                      go_wp2_with (first | ((with_reducible refine gate_callee (f := 45) rfl ?_); refine goesL_ (some 51) rfl rfl Try.func45 (by kernel_rfl) rfl #[.agg #[.int .i64 x33002000_3, .slice Ao46 x33002001_3.length co46, .slice Ao45 x33002002_3.length co45], .int .i64 0] rfl (by (try simp only [List.map_toArray, List.map_cons, List.map_nil]); first | done | rfl | (simp only [List.length_drop, List.length_take]; rfl)) ?_; (with_reducible refine (channel_Confirm.calls x33002000_3 _ _ x33002001_3 _ _ x33002002_3 0 t33020 t33021 t33024 t33027 _ ?side1 ?side2 ?side3 ?side4 A42.out).mono ?_); (case side1 => exact Kd.C_ext (Kd.R_reads' HO_33002001.out).2.2); (case side2 => exact (Kd.R_reads' HO_33002001.out).2.1); (case side3 => exact Kd.C_ext (Kd.R_reads' HO_33002002.out).2.2); (case side4 => exact (Kd.R_reads' HO_33002002.out).2.1); rintro e w47 ⟨v33022, v33025, rfl, ho0, ho1, hb⟩; refine ⟨_, rfl, ?_⟩; have n2_ := Aside0.mk (Kd.R_lower (Kd.R_new' (Kd.R_new' ho0 (Kd.R_lt (Kd.R_ext HO_33002001.out))) (Kd.R_lt (Kd.R_ext HO_33002002.out))) (below_size (below_extB HB.out))); have n3_ := Aside0.mk (Kd.R_lower (Kd.R_new' (Kd.R_new' ho1 (Kd.R_lt (Kd.R_ext HO_33002001.out))) (Kd.R_lt (Kd.R_ext HO_33002002.out))) (below_size (below_extB HB.out))); have HO33023 := n2_; have HO33026 := n3_; replace HO_33002001 := tdR2 HO_33002001 hb (Kd.R_base ho0) (Kd.R_base ho1); replace HO_33002002 := tdR2 HO_33002002 hb (Kd.R_base ho0) (Kd.R_base ho1); replace BK33001 := mvB BK33001 hb; replace BK33002 := mvB BK33002 hb; replace HB := mvH HB hb; clear n2_ n3_; (try clear hb); (try clear hb2); (try clear hk); (try clear hi); (try clear ho0); (try clear ho1); have hcz48_0 : w47.cell? ⟨gb33001, 0, none⟩ = some (.int .i64 x33002000_3) := (blk_cell BK33001.out 0).trans rfl; have hcz48_1 : w47.cell? ⟨gb33001, 1, none⟩ = some (.slice Ao46 x33002001_3.length co46) := (blk_cell BK33001.out 1).trans rfl; have hcz48_2 : w47.cell? ⟨gb33001, 2, none⟩ = some (.slice Ao45 x33002002_3.length co45) := (blk_cell BK33001.out 2).trans rfl; have hfz48_0 := blk_frozen BK33001.out 0; have hfz48_1 := blk_frozen BK33001.out 1; have hfz48_2 := blk_frozen BK33001.out 2; obtain ⟨Ao49, co49, eo49⟩ := Kd.R_slice HO33023.out; subst eo49; obtain ⟨Ao50, co50, eo50⟩ := Kd.R_slice HO33026.out; subst eo50))
                      go_roundg k3
                      case measure => have := HJ7.out; have := HK2.out; have := HK3.out; omega
                      case rel => exact ⟨(t33020), (t33021), (t33024), (.slice Ao49 t33021.length co49), (.slice Ao50 t33024.length co50), H', ⟨by have := HJ7.out; have := HK2.out; have := HK3.out; omega⟩, ⟨Kd.R_ext (Kd.R_mono (Kd.R_far (p := ⟨gb33001, 2, none⟩) (Kd.R_far (p := ⟨gb33001, 1, none⟩) (Kd.R_far (p := ⟨gb33001, 0, none⟩) (Kd.R_types HO33023.out BK33001.out (by decide)) (fun _ hk => hk.2) (.int .i64 t33020)) (fun _ hk => hk.2) (.slice Ao49 t33021.length co49)) (fun _ hk => hk.2) (.slice Ao50 t33024.length co50)) (fun _ hk => hk.1.1.1))⟩, ⟨Kd.R_ext (Kd.R_mono (Kd.R_far (p := ⟨gb33001, 2, none⟩) (Kd.R_far (p := ⟨gb33001, 1, none⟩) (Kd.R_far (p := ⟨gb33001, 0, none⟩) (Kd.R_types HO33026.out BK33001.out (by decide)) (fun _ hk => hk.2) (.int .i64 t33020)) (fun _ hk => hk.2) (.slice Ao49 t33021.length co49)) (fun _ hk => hk.2) (.slice Ao50 t33024.length co50)) (fun _ hk => hk.1.1.1))⟩, ⟨by (with_reducible repeat (first | refine blk_drewN ?_ _ | refine blk_drew ?_ | refine blk_alloc ?_ _)); refine blk_put (cs := #[.int .i64 t33020, .slice Ao49 t33021.length co49, .slice Ao45 x33002002_3.length co45]) ?_ 2 _ rfl; (with_reducible repeat (first | refine blk_drewN ?_ _ | refine blk_drew ?_ | refine blk_alloc ?_ _)); refine blk_put (cs := #[.int .i64 t33020, .slice Ao46 x33002001_3.length co46, .slice Ao45 x33002002_3.length co45]) ?_ 1 _ rfl; (with_reducible repeat (first | refine blk_drewN ?_ _ | refine blk_drew ?_ | refine blk_alloc ?_ _)); refine blk_put (cs := #[.int .i64 x33002000_3, .slice Ao46 x33002001_3.length co46, .slice Ao45 x33002002_3.length co45]) ?_ 0 _ rfl; exact blk_ext BK33001.out⟩, ⟨blk_extC BK33002.out⟩, ⟨below_extB HB.out⟩⟩
                    · rw [if_neg c41] at H
                      have c41b0 : decide (0 < (x33002002_3.length : Int)) = false := decide_eq_false c41
                      have c41b1 : decide (0 < x33002002_3.length) = false := decide_eq_false (by omega)
                      clear c41
                      simp only [Option.some.injEq, Prod.mk.injEq] at H
                      obtain ⟨rfl, rfl, rfl, rfl, rfl⟩ := H
                      have hnb51 := NB33001_33002.out
                      have hnc51 := NB33002_33001.out
                      have hcz52_0 : wr.cell? ⟨gb33001, 0, none⟩ = some (.int .i64 x33002000_3) := (blk_cell BK33001.out 0).trans rfl
                      have hcz52_1 : wr.cell? ⟨gb33001, 1, none⟩ = some (u33002001) := (blk_cell BK33001.out 1).trans rfl
                      have hcz52_2 : wr.cell? ⟨gb33001, 2, none⟩ = some (u33002002) := (blk_cell BK33001.out 2).trans rfl
                      have hfz52_0 := blk_frozen BK33001.out 0
                      have hfz52_1 := blk_frozen BK33001.out 1
                      have hfz52_2 := blk_frozen BK33001.out 2
                      obtain ⟨Ao53, co53, eo53⟩ := Kd.R_slice HO_33002002.out
                      subst eo53
                      have hcz54_0 : wr.cell? ⟨gb33002, 0, none⟩ = some (.int .i64 x33003000_2) := (blk_cell BK33002.out 0).trans rfl
                      have hcz54_1 : wr.cell? ⟨gb33002, 1, none⟩ = some (.slice none 0 0) := (blk_cell BK33002.out 1).trans rfl
                      have hcz54_2 : wr.cell? ⟨gb33002, 2, none⟩ = some (.slice none 0 0) := (blk_cell BK33002.out 2).trans rfl
                      have hfz54_0 := blk_frozen BK33002.out 0
                      have hfz54_1 := blk_frozen BK33002.out 1
                      have hfz54_2 := blk_frozen BK33002.out 2
                      obtain ⟨Ao55, co55, eo55⟩ := Kd.R_slice HO_33002001.out
                      subst eo55
                      go_wp2
                      (try simp only [Exit.jump])
                      refine bodyPost_ret (results_ctt rfl _ _ gb33002 44 #[.int .i64 x33002000_3, .slice Ao55 x33002001_3.length co55, .slice Ao53 x33002002_3.length co53] (0, 0) _ rfl (by (with_reducible repeat (first | refine blk_drewN ?_ _ | refine blk_drew ?_ | refine blk_alloc ?_ _)); refine blk_put (cs := #[.int .i64 x33002000_3, .slice Ao55 x33002001_3.length co55, .slice none 0 0]) ?_ 2 _ rfl; (with_reducible repeat (first | refine blk_drewN ?_ _ | refine blk_drew ?_ | refine blk_alloc ?_ _)); refine blk_put (cs := #[.int .i64 x33002000_3, .slice none 0 0, .slice none 0 0]) ?_ 1 _ rfl; (with_reducible repeat (first | refine blk_drewN ?_ _ | refine blk_drew ?_ | refine blk_alloc ?_ _)); refine blk_put (cs := #[.int .i64 x33003000_2, .slice none 0 0, .slice none 0 0]) ?_ 0 _ rfl; exact blk_ext BK33002.out) Try.underlying44 rfl (by kernel_rfl)) rfl ?_
                      exact ⟨_, _, by first | rfl | (simp [errW_none, errW_some] <;> rfl) | (simp [*, errW_none, errW_some] <;> rfl), Kd.R_ext (Kd.R_mono (Kd.R_far (p := ⟨gb33002, 2, none⟩) (Kd.R_far (p := ⟨gb33002, 1, none⟩) (Kd.R_far (p := ⟨gb33002, 0, none⟩) (Kd.R_types HO_33002001.out BK33002.out (by decide)) (fun _ hk => hk.2) (.int .i64 x33002000_3)) (fun _ hk => hk.2) (.slice Ao55 x33002001_3.length co55)) (fun _ hk => hk.2) (.slice Ao53 x33002002_3.length co53)) (fun _ hk => hk.1)), Kd.R_ext (Kd.R_mono (Kd.R_far (p := ⟨gb33002, 2, none⟩) (Kd.R_far (p := ⟨gb33002, 1, none⟩) (Kd.R_far (p := ⟨gb33002, 0, none⟩) (Kd.R_types HO_33002002.out BK33002.out (by decide)) (fun _ hk => hk.2) (.int .i64 x33002000_3)) (fun _ hk => hk.2) (.slice Ao55 x33002001_3.length co55)) (fun _ hk => hk.2) (.slice Ao53 x33002002_3.length co53)) (fun _ hk => hk.1)), below_extB HB.out⟩
  · rw [if_neg c7] at H
    have c7b0 : (t33010 == 0) = false := beq_eq_false_iff_ne.mpr c7
    have c7b1 : (t33010 != 0) = true := bne_iff_ne.mpr c7
    simp only [Option.some.injEq, Prod.mk.injEq] at H
    obtain ⟨rfl, rfl, rfl, rfl, rfl⟩ := H
    have hnb56 := NB33001_33002.out
    have hnc56 := NB33002_33001.out
    have hcz57_0 : w5.cell? ⟨gb33001, 0, none⟩ = some (.int .i64 a0_0) := (blk_cell BK33001.out 0).trans rfl
    have hcz57_1 : w5.cell? ⟨gb33001, 1, none⟩ = some (.slice A0_1 l0_1.length c0_1) := (blk_cell BK33001.out 1).trans rfl
    have hcz57_2 : w5.cell? ⟨gb33001, 2, none⟩ = some (.slice A0_2 l0_2.length c0_2) := (blk_cell BK33001.out 2).trans rfl
    have hfz57_0 := blk_frozen BK33001.out 0
    have hfz57_1 := blk_frozen BK33001.out 1
    have hfz57_2 := blk_frozen BK33001.out 2
    go_wp2_with (first | ((with_reducible refine gate_callee (f := 37) rfl ?_); refine goesL_ (some 14) rfl rfl Try.func37 (by kernel_rfl) rfl #[.agg #[.int .i64 a0_0, .slice A0_1 l0_1.length c0_1, .slice A0_2 l0_2.length c0_2], .int .i64 a1] rfl (by (try simp only [List.map_toArray, List.map_cons, List.map_nil]); first | done | rfl | (simp only [List.length_drop, List.length_take]; rfl)) ?_; (with_reducible refine (channel_Transmit.calls k a0_0 _ _ l0_1 _ _ l0_2 a1 t33003 t33004 t33007 t33010 _ ?side1 ?side2 ?side3 ?side4 A6.out).mono ?_); (case side1 => repeat (first | exact (Kd.C_below HR0_1.out HB.out) | (with_reducible refine Kd.C_alloc ?_ _) | (with_reducible refine Kd.C_drewN ?_ _) | (with_reducible refine Kd.C_drew ?_))); (case side2 => exact HC0_1.out); (case side3 => repeat (first | exact (Kd.C_below HR0_2.out HB.out) | (with_reducible refine Kd.C_alloc ?_ _) | (with_reducible refine Kd.C_drewN ?_ _) | (with_reducible refine Kd.C_drew ?_))); (case side4 => exact HC0_2.out); rintro e w58 ⟨v33005, v33008, rfl, ho0, ho1, hb⟩; refine ⟨_, rfl, ?_⟩; have n0_ := Aside0.mk (Kd.R_lower ho0 (below_size (below_extB HB.out))); have n1_ := Aside0.mk (Kd.R_lower ho1 (below_size (below_extB HB.out))); have HO33006 := n0_; have HO33009 := n1_; replace BK33001 := mvB BK33001 hb; replace BK33002 := mvB BK33002 hb; replace HB := mvH HB hb; clear n0_ n1_; (try clear hb); (try clear hb2); (try clear hk); (try clear hi); (try clear ho0); (try clear ho1); have hcz59_0 : w58.cell? ⟨gb33001, 0, none⟩ = some (.int .i64 a0_0) := (blk_cell BK33001.out 0).trans rfl; have hcz59_1 : w58.cell? ⟨gb33001, 1, none⟩ = some (.slice A0_1 l0_1.length c0_1) := (blk_cell BK33001.out 1).trans rfl; have hcz59_2 : w58.cell? ⟨gb33001, 2, none⟩ = some (.slice A0_2 l0_2.length c0_2) := (blk_cell BK33001.out 2).trans rfl; have hfz59_0 := blk_frozen BK33001.out 0; have hfz59_1 := blk_frozen BK33001.out 1; have hfz59_2 := blk_frozen BK33001.out 2; obtain ⟨Ao60, co60, eo60⟩ := Kd.R_slice HO33006.out; subst eo60; obtain ⟨Ao61, co61, eo61⟩ := Kd.R_slice HO33009.out; subst eo61; have hcz62_0 : w58.cell? ⟨gb33002, 0, none⟩ = some (.int .i64 0) := (blk_cell BK33002.out 0).trans rfl; have hcz62_1 : w58.cell? ⟨gb33002, 1, none⟩ = some (.slice none 0 0) := (blk_cell BK33002.out 1).trans rfl; have hcz62_2 : w58.cell? ⟨gb33002, 2, none⟩ = some (.slice none 0 0) := (blk_cell BK33002.out 2).trans rfl; have hfz62_0 := blk_frozen BK33002.out 0; have hfz62_1 := blk_frozen BK33002.out 1; have hfz62_2 := blk_frozen BK33002.out 2))
    (try simp only [Exit.jump])
    refine bodyPost_ret (results_ctt rfl _ _ gb33002 44 #[.int .i64 0, .slice none 0 0, .slice none 0 0] (0, 0) _ rfl (by (with_reducible repeat (first | refine blk_drewN ?_ _ | refine blk_drew ?_ | refine blk_alloc ?_ _)); refine blk_put (cs := #[.int .i64 0, .slice none 0 0, .slice none 0 0]) ?_ 2 _ rfl; (with_reducible repeat (first | refine blk_drewN ?_ _ | refine blk_drew ?_ | refine blk_alloc ?_ _)); refine blk_put (cs := #[.int .i64 0, .slice none 0 0, .slice none 0 0]) ?_ 1 _ rfl; (with_reducible repeat (first | refine blk_drewN ?_ _ | refine blk_drew ?_ | refine blk_alloc ?_ _)); refine blk_put (cs := #[.int .i64 0, .slice none 0 0, .slice none 0 0]) ?_ 0 _ rfl; (with_reducible repeat (first | refine blk_drewN ?_ _ | refine blk_drew ?_ | refine blk_alloc ?_ _)); refine blk_far ?_ NB33002_33001.out _; (with_reducible repeat (first | refine blk_drewN ?_ _ | refine blk_drew ?_ | refine blk_alloc ?_ _)); refine blk_far ?_ NB33002_33001.out _; (with_reducible repeat (first | refine blk_drewN ?_ _ | refine blk_drew ?_ | refine blk_alloc ?_ _)); refine blk_far ?_ NB33002_33001.out _; exact blk_ext BK33002.out) Try.underlying44 rfl (by kernel_rfl)) rfl ?_
    exact ⟨_, _, by first | rfl | (simp [errW_none, errW_some] <;> rfl) | (simp [*, errW_none, errW_some] <;> rfl), by first | exact Kd.R_nil _ _ _ _ _ | exact Kd.N_nil _ _ _ _ _ | exact Kd.V_nil _ _ _ _ _ | exact Kd.Q_nil _ _ _ _ _ | exact Kd.S_nil _ _ _ _ _, by first | exact Kd.R_nil _ _ _ _ _ | exact Kd.N_nil _ _ _ _ _ | exact Kd.V_nil _ _ _ _ _ | exact Kd.Q_nil _ _ _ _ _ | exact Kd.S_nil _ _ _ _ _, below_extB HB.out⟩

end Go.Proofs.Ytfljnggpnndmkaa.Z
