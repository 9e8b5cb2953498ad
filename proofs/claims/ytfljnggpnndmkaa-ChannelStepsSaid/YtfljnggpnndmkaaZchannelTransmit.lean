/- Written by a program of this session: each Go function as a plain Lean function, and that the machine's call does what it says. Conditions: none but those each theorem states. -/
import Derived.Test.YtfljnggpnndmkaaZ0
import Derived.Test.YtfljnggpnndmkaaZchannelcopied
namespace Go.Proofs.Ytfljnggpnndmkaa.Z
open Go.RowKit Go.Proofs.YtfljnggpnndmkaaW.PrintWords Go.Proofs.YtfljnggpnndmkaaW.PrintLast Go.Proofs.YtfljnggpnndmkaaW.PrintMore
attribute [local go_sem] max2_int min2_int max_two min_two max_three min_three max_four min_four   -- for this text's walks alone
set_option linter.unusedVariables false
set_option linter.unusedSimpArgs false

/-! ### channel_Transmit: function 37 -/
mutual
def channel_Transmit.j0 : Nat → Int → Bool → Int → List Int → List Int → Option (Int × List Int × List Int × Int)
  | 0, _, _, _, _, _ => none
  | k + 1, x1, x7, x37002000, x37002001, x37002002 => if x7 = true then (some (0, ([] : List Int), ([] : List Int), 2)) else (if (wrap64 (x1 - x37002000)) > (wrap64 (1000 - (x37002001.length : Int))) then (some (0, ([] : List Int), ([] : List Int), 8)) else ((channel_copied.f x37002000 x37002001 x37002002).bind fun bt37003 => (channel_Transmit.l0 k x1 (wrap64 (bt37003.1 + 1)) bt37003.1 bt37003.2.1 bt37003.2.2)))
def channel_Transmit.l0 : Nat → Int → Int → Int → List Int → List Int → Option (Int × List Int × List Int × Int)
  | 0, _, _, _, _, _ => none
  | k + 1, x1, x6, x37002000, x37002001, x37002002 => if x6 ≤ x1 then (if x37002001.length < 17592186044416 then (channel_Transmit.l0 k x1 (wrap64 (x6 + 1)) x37002000 (x37002001 ++ [x6]) x37002002) else (none)) else (some (x37002000, x37002001, x37002002, 0))
end
def channel_Transmit.f (k : Nat) (a0_0 : Int) (l0_1 : List Int) (l0_2 : List Int) (a1 : Int) : Option (Int × List Int × List Int × Int) := if a0_0 < 0 then (channel_Transmit.j0 k a1 true a0_0 l0_1 l0_2) else (if a1 < a0_0 then (channel_Transmit.j0 k a1 true a0_0 l0_1 l0_2) else (channel_Transmit.j0 k a1 (decide (a1 > 1000000)) a0_0 l0_1 l0_2))
theorem channel_Transmit.mono_l : ∀ k, (∀ y0 y1 y2 y3 y4, LeO (channel_Transmit.j0 k y0 y1 y2 y3 y4) (channel_Transmit.j0 (k + 1) y0 y1 y2 y3 y4)) ∧ (∀ y0 y1 y2 y3 y4, LeO (channel_Transmit.l0 k y0 y1 y2 y3 y4) (channel_Transmit.l0 (k + 1) y0 y1 y2 y3 y4))
  | 0 => ⟨fun _ _ _ _ _ r h => by simp [channel_Transmit.j0] at h, fun _ _ _ _ _ r h => by simp [channel_Transmit.l0] at h⟩
  | k + 1 => by
    obtain ⟨ih0, ih1⟩ := channel_Transmit.mono_l k
    refine ⟨?_, ?_⟩
    · intro y0 y1 y2 y3 y4
      unfold channel_Transmit.j0
      repeat' first
      | (with_reducible exact ih0 _ _ _ _ _)
      | (with_reducible exact ih1 _ _ _ _ _)
      | (with_reducible exact LeO.refl _)
      | (with_reducible exact LeO.none _)
      | (with_reducible refine LeO.ite ?_ ?_)
      | (with_reducible refine LeO.bind ?_ (fun _ => ?_))
      | exact ih0 _ _ _ _ _
      | exact ih1 _ _ _ _ _
      | exact LeO.none _
      | refine LeO.ite ?_ ?_
      | refine LeO.bind ?_ (fun _ => ?_)
    · intro y0 y1 y2 y3 y4
      unfold channel_Transmit.l0
      repeat' first
      | (with_reducible exact ih0 _ _ _ _ _)
      | (with_reducible exact ih1 _ _ _ _ _)
      | (with_reducible exact LeO.refl _)
      | (with_reducible exact LeO.none _)
      | (with_reducible refine LeO.ite ?_ ?_)
      | (with_reducible refine LeO.bind ?_ (fun _ => ?_))
      | exact ih0 _ _ _ _ _
      | exact ih1 _ _ _ _ _
      | exact LeO.none _
      | refine LeO.ite ?_ ?_
      | refine LeO.bind ?_ (fun _ => ?_)
theorem channel_Transmit.mono : ∀ a0 a1 a2 a3 k, LeO (channel_Transmit.f k a0 a1 a2 a3) (channel_Transmit.f (k + 1) a0 a1 a2 a3) := by
  intro a0 a1 a2 a3 k
  obtain ⟨ih0, ih1⟩ := channel_Transmit.mono_l k
  unfold channel_Transmit.f
  repeat' first
      | (with_reducible exact ih0 _ _ _ _ _)
      | (with_reducible exact ih1 _ _ _ _ _)
      | (with_reducible exact LeO.refl _)
      | (with_reducible exact LeO.none _)
      | (with_reducible refine LeO.ite ?_ ?_)
      | (with_reducible refine LeO.bind ?_ (fun _ => ?_))
      | exact ih0 _ _ _ _ _
      | exact ih1 _ _ _ _ _
      | exact LeO.none _
      | refine LeO.ite ?_ ?_
      | refine LeO.bind ?_ (fun _ => ?_)
set_option maxHeartbeats 8000000 in
set_option maxRecDepth 100000 in
theorem channel_Transmit.calls (k : Nat) (a0_0 : Int) (A0_1 : Option Addr) (c0_1 : Nat) (l0_1 : List Int) (A0_2 : Option Addr) (c0_2 : Nat) (l0_2 : List Int) (a1 : Int) (r1 : Int) (r2 : List Int) (r3 : List Int) (r4 : Int) (w : World) (hr0_1 : Kd.C (Kd.int .i64) w A0_1 l0_1.length l0_1) (hc0_1 : l0_1.length ≤ c0_1) (hr0_2 : Kd.C (Kd.int .i64) w A0_2 l0_2.length l0_2) (hc0_2 : l0_2.length ≤ c0_2) (h : channel_Transmit.f k a0_0 l0_1 l0_2 a1 = some (r1, r2, r3, r4)) :
    Calls Try.prog 37 #[.agg #[.int .i64 a0_0, .slice A0_1 l0_1.length c0_1, .slice A0_2 l0_2.length c0_2], .int .i64 a1] w fun e w' => ∃ v1_ v2_ : Value, e = .returned (.tuple #[.agg #[.int .i64 r1, v1_, v2_], .int .i64 r4]) ∧ Kd.R (Kd.int .i64) 3 w' w.heap.size (fun k_ => some k_ ≠ (v2_ : Value).ownBlock) v1_ r2 ∧ Kd.R (Kd.int .i64) 3 w' w.heap.size (fun k_ => some k_ ≠ (v1_ : Value).ownBlock) v2_ r3 ∧ Below w.heap.size w w' := by
  have hu44 := Try.underlying44
  have HR0_1 := Aside0.mk hr0_1
  have HC0_1 := Aside0.mk hc0_1
  clear hr0_1 hc0_1
  have HR0_2 := Aside0.mk hr0_2
  have HC0_2 := Aside0.mk hc0_2
  clear hr0_2 hc0_2
  have HB := Aside0.mk (Below.refl w.heap.size w)
  have H : (if a0_0 < 0 then (channel_Transmit.j0 k a1 true a0_0 l0_1 l0_2) else (if a1 < a0_0 then (channel_Transmit.j0 k a1 true a0_0 l0_1 l0_2) else (channel_Transmit.j0 k a1 (decide (a1 > 1000000)) a0_0 l0_1 l0_2))) = some (r1, r2, r3, r4) := h
  clear h
  have HC3 := Aside0.mk H
  clear H
  go_enter Try.func37, Try.ntmps37
  go_upto_region 1 with (first | ((with_reducible refine gate_dst (N := 2) rfl ?_); refine box_event ?hg (N := 2) ?hd (cs := #[.int .i64 a0_0, .slice A0_1 l0_1.length c0_1, .slice A0_2 l0_2.length c0_2]) (t := 44) ?hr ?_; (case hd => rfl); (case hg => rfl); (case hr => first | (go_simp; done) | (go_simp; rfl)); intro gb37001 hg w4 hbox hb; have n1_ := Aside0.mk (hbox); have n2_ := Aside0.mk ((by rw [hg]; exact (below_size (below_ext HB.out)) : w.heap.size ≤ gb37001)); have n3_ := Aside0.mk ((by rw [hg]; exact (below_size (below_ext HB.out)) : w.heap.size ≤ gb37001)); have BK37001 := n1_; have GW37001 := n2_; have GE37001 := n3_; have GI37001 := GE_.mk GE37001.out; replace HB := mvH HB hb; clear n1_ n2_ n3_; clear hb hbox hg) | ((with_reducible refine gate_dst (N := 4) rfl ?_); refine box_event ?hg (N := 4) ?hd (cs := #[.int .i64 0, .slice none 0 0, .slice none 0 0]) (t := 44) ?hr ?_; (case hd => rfl); (case hg => rfl); (case hr => first | (go_simp; done) | (go_simp; rfl)); intro gb37002 hg w5 hbox hb; have n2_ := Aside0.mk (hbox); have n3_ := Aside0.mk ((by rw [hg]; exact (below_size (below_extB HB.out)) : w.heap.size ≤ gb37002)); have n4_ := Aside0.mk ((by rw [hg]; exact (below_size (below_extB HB.out)) : w.heap.size ≤ gb37002)); have n5_ := Aside0.mk ((by rw [hg]; exact Nat.ne_of_lt (blk_lt (blk_ext BK37001.out)) : gb37001 ≠ gb37002)); have n6_ := Aside0.mk ((by rw [hg]; exact Nat.ne_of_gt (blk_lt (blk_ext BK37001.out)) : gb37002 ≠ gb37001)); have BK37002 := n2_; have GW37002 := n3_; have GE37002 := n4_; have GI37002 := GE_.mk GE37002.out; have NB37001_37002 := n5_; have NI37001_37002 := NE_.mk NB37001_37002.out; have NB37002_37001 := n6_; have NI37002_37001 := NE_.mk NB37002_37001.out; replace BK37001 := mvB BK37001 hb; replace HB := mvH HB hb; clear n2_ n3_ n4_ n5_ n6_; clear hb hbox hg))
  (try simp only [Act.put, List.setIfInBounds_toArray, List.set_cons_zero, List.set_cons_succ])
  go_cut [7] (fun v7 wc => ∃ (kq : Nat) (x7_2 : Bool), v7 = .bool x7_2 ∧ Aside0 (channel_Transmit.j0 kq a1 x7_2 a0_0 l0_1 l0_2 = some (r1, r2, r3, r4)) ∧ Aside0 (kq ≤ k) ∧ Aside0 (wc.heap[gb37001]? = some (.cells #[.int .i64 a0_0, (.slice A0_1 l0_1.length c0_1), (.slice A0_2 l0_2.length c0_2)] 44 (0, 0))) ∧ Aside0 (wc.heap[gb37002]? = some (.cells #[.int .i64 0, (.slice none 0 0), (.slice none 0 0)] 44 (0, 0))) ∧ Aside0 (Below w.heap.size w wc))
  case first =>
    have H := HC3.out
    clear HC3
    by_cases c6 : a0_0 < 0
    · rw [if_pos c6] at H
      have c6b0 : decide (a0_0 < 0) = true := decide_eq_true c6
      clear c6
      (first | rw [c6b0] | (simp only [i64_w, i32_w]; rw [c6b0]) | skip)
      have H' := Aside0.mk H
      clear H
      have hnb7 := NB37001_37002.out
      have hnc7 := NB37002_37001.out
      have hcz8_0 : w5.cell? ⟨gb37001, 0, none⟩ = some (.int .i64 a0_0) := (blk_cell BK37001.out 0).trans rfl
      have hcz8_1 : w5.cell? ⟨gb37001, 1, none⟩ = some (.slice A0_1 l0_1.length c0_1) := (blk_cell BK37001.out 1).trans rfl
      have hcz8_2 : w5.cell? ⟨gb37001, 2, none⟩ = some (.slice A0_2 l0_2.length c0_2) := (blk_cell BK37001.out 2).trans rfl
      have hfz8_0 := blk_frozen BK37001.out 0
      have hfz8_1 := blk_frozen BK37001.out 1
      have hfz8_2 := blk_frozen BK37001.out 2
      go_wp2
      go_meet
      case rel => exact ⟨_, (true), (by first | rfl | (simp; done) | (simp [*]; done)), H', ⟨by first | omega | exact Nat.le_refl _⟩, ⟨blk_ext BK37001.out⟩, ⟨blk_ext BK37002.out⟩, ⟨below_extB HB.out⟩⟩
    · rw [if_neg c6] at H
      have c6b0 : decide (a0_0 < 0) = false := decide_eq_false c6
      clear c6
      (first | rw [c6b0] | (simp only [i64_w, i32_w]; rw [c6b0]) | skip)
      by_cases c9 : a1 < a0_0
      · rw [if_pos c9] at H
        have c9b0 : decide (a1 < a0_0) = true := decide_eq_true c9
        clear c9
        have H' := Aside0.mk H
        clear H
        have hnb10 := NB37001_37002.out
        have hnc10 := NB37002_37001.out
        have hcz11_0 : w5.cell? ⟨gb37001, 0, none⟩ = some (.int .i64 a0_0) := (blk_cell BK37001.out 0).trans rfl
        have hcz11_1 : w5.cell? ⟨gb37001, 1, none⟩ = some (.slice A0_1 l0_1.length c0_1) := (blk_cell BK37001.out 1).trans rfl
        have hcz11_2 : w5.cell? ⟨gb37001, 2, none⟩ = some (.slice A0_2 l0_2.length c0_2) := (blk_cell BK37001.out 2).trans rfl
        have hfz11_0 := blk_frozen BK37001.out 0
        have hfz11_1 := blk_frozen BK37001.out 1
        have hfz11_2 := blk_frozen BK37001.out 2
        go_wp2
        go_meet
        case rel => exact ⟨_, (true), (by first | rfl | (simp; done) | (simp [*]; done)), H', ⟨by first | omega | exact Nat.le_refl _⟩, ⟨blk_ext BK37001.out⟩, ⟨blk_ext BK37002.out⟩, ⟨below_extB HB.out⟩⟩
      · rw [if_neg c9] at H
        have c9b0 : decide (a1 < a0_0) = false := decide_eq_false c9
        clear c9
        have H' := Aside0.mk H
        clear H
        have hnb12 := NB37001_37002.out
        have hnc12 := NB37002_37001.out
        have hcz13_0 : w5.cell? ⟨gb37001, 0, none⟩ = some (.int .i64 a0_0) := (blk_cell BK37001.out 0).trans rfl
        have hcz13_1 : w5.cell? ⟨gb37001, 1, none⟩ = some (.slice A0_1 l0_1.length c0_1) := (blk_cell BK37001.out 1).trans rfl
        have hcz13_2 : w5.cell? ⟨gb37001, 2, none⟩ = some (.slice A0_2 l0_2.length c0_2) := (blk_cell BK37001.out 2).trans rfl
        have hfz13_0 := blk_frozen BK37001.out 0
        have hfz13_1 := blk_frozen BK37001.out 1
        have hfz13_2 := blk_frozen BK37001.out 2
        go_wp2
        go_meet
        case rel => exact ⟨_, (decide (a1 > 1000000)), (by first | rfl | (simp; done) | (simp [*]; done)), H', ⟨by first | omega | exact Nat.le_refl _⟩, ⟨blk_ext BK37001.out⟩, ⟨blk_ext BK37002.out⟩, ⟨below_extB HB.out⟩⟩
  case rest =>
    clear HC3
    try clear c1
    try clear p2
    try clear c3
    try clear c6
    try clear c6b0
    try clear c7
    try clear c9
    try clear c9b0
    try clear c10
    try clear c12
    try clear hcz11_0
    try clear hcz11_1
    try clear hcz11_2
    try clear hcz13_0
    try clear hcz13_1
    try clear hcz13_2
    try clear hcz8_0
    try clear hcz8_1
    try clear hcz8_2
    try clear hfz11_0
    try clear hfz11_1
    try clear hfz11_2
    try clear hfz13_0
    try clear hfz13_1
    try clear hfz13_2
    try clear hfz8_0
    try clear hfz8_1
    try clear hfz8_2
    obtain ⟨kq, x7_2, rfl, HA, HJ2, BK37001, BK37002, HB⟩ := hcut
    cases kq with
    | zero => exact absurd HA.out (by simp [channel_Transmit.j0])
    | succ kj2 =>
      have H := HA.out
      clear HA
      simp only [channel_Transmit.j0] at H
      by_cases c14 : x7_2 = true
      · subst c14
        have H1 : (some (0, ([] : List Int), ([] : List Int), 2)) = some (r1, r2, r3, r4) := by rw [if_pos rfl] at H; exact H
        clear H
        have H := H1
        clear H1
        simp only [Option.some.injEq, Prod.mk.injEq] at H
        obtain ⟨rfl, rfl, rfl, rfl⟩ := H
        have hnb15 := NB37002_37001.out
        have hnc15 := NB37001_37002.out
        have hcz16_0 : wc.cell? ⟨gb37002, 0, none⟩ = some (.int .i64 0) := (blk_cell BK37002.out 0).trans rfl
        have hcz16_1 : wc.cell? ⟨gb37002, 1, none⟩ = some (.slice none 0 0) := (blk_cell BK37002.out 1).trans rfl
        have hcz16_2 : wc.cell? ⟨gb37002, 2, none⟩ = some (.slice none 0 0) := (blk_cell BK37002.out 2).trans rfl
        have hfz16_0 := blk_frozen BK37002.out 0
        have hfz16_1 := blk_frozen BK37002.out 1
        have hfz16_2 := blk_frozen BK37002.out 2
        go_wp2
        refine bodyPost_ret (results_ct rfl _ _ gb37002 44 #[.int .i64 0, .slice none 0 0, .slice none 0 0] (0, 0) _ rfl (by (with_reducible repeat (first | refine blk_drewN ?_ _ | refine blk_drew ?_ | refine blk_alloc ?_ _)); refine blk_put (cs := #[.int .i64 0, .slice none 0 0, .slice none 0 0]) ?_ 2 _ rfl; (with_reducible repeat (first | refine blk_drewN ?_ _ | refine blk_drew ?_ | refine blk_alloc ?_ _)); refine blk_put (cs := #[.int .i64 0, .slice none 0 0, .slice none 0 0]) ?_ 1 _ rfl; (with_reducible repeat (first | refine blk_drewN ?_ _ | refine blk_drew ?_ | refine blk_alloc ?_ _)); refine blk_put (cs := #[.int .i64 0, .slice none 0 0, .slice none 0 0]) ?_ 0 _ rfl; exact blk_ext BK37002.out) Try.underlying44 rfl (by kernel_rfl)) rfl ?_
        exact ⟨_, _, by first | rfl | (simp [errW_none, errW_some] <;> rfl) | (simp [*, errW_none, errW_some] <;> rfl), by first | exact Kd.R_nil _ _ _ _ _ | exact Kd.N_nil _ _ _ _ _ | exact Kd.V_nil _ _ _ _ _ | exact Kd.Q_nil _ _ _ _ _ | exact Kd.S_nil _ _ _ _ _, by first | exact Kd.R_nil _ _ _ _ _ | exact Kd.N_nil _ _ _ _ _ | exact Kd.V_nil _ _ _ _ _ | exact Kd.Q_nil _ _ _ _ _ | exact Kd.S_nil _ _ _ _ _, below_extB HB.out⟩
      · replace c14 := Bool.eq_false_iff.mpr c14
        subst c14
        have H1 : (if (wrap64 (a1 - a0_0)) > (wrap64 (1000 - (l0_1.length : Int))) then (some (0, ([] : List Int), ([] : List Int), 8)) else ((channel_copied.f a0_0 l0_1 l0_2).bind fun bt37003 => (channel_Transmit.l0 kj2 a1 (wrap64 (bt37003.1 + 1)) bt37003.1 bt37003.2.1 bt37003.2.2))) = some (r1, r2, r3, r4) := by rw [if_neg (show ¬ (false = true) by decide)] at H; exact H
        clear H
        have H := H1
        clear H1
        by_cases c17 : (wrap64 (a1 - a0_0)) > (wrap64 (1000 - (l0_1.length : Int)))
        · rw [if_pos c17] at H
          have c17b0 : decide ((wrap64 (1000 - (l0_1.length : Int))) < (wrap64 (a1 - a0_0))) = true := decide_eq_true c17
          clear c17
          simp only [Option.some.injEq, Prod.mk.injEq] at H
          obtain ⟨rfl, rfl, rfl, rfl⟩ := H
          have hnb18 := NB37001_37002.out
          have hnc18 := NB37002_37001.out
          have hcz19_0 : wc.cell? ⟨gb37001, 0, none⟩ = some (.int .i64 a0_0) := (blk_cell BK37001.out 0).trans rfl
          have hcz19_1 : wc.cell? ⟨gb37001, 1, none⟩ = some (.slice A0_1 l0_1.length c0_1) := (blk_cell BK37001.out 1).trans rfl
          have hcz19_2 : wc.cell? ⟨gb37001, 2, none⟩ = some (.slice A0_2 l0_2.length c0_2) := (blk_cell BK37001.out 2).trans rfl
          have hfz19_0 := blk_frozen BK37001.out 0
          have hfz19_1 := blk_frozen BK37001.out 1
          have hfz19_2 := blk_frozen BK37001.out 2
          have hcz20_0 : wc.cell? ⟨gb37002, 0, none⟩ = some (.int .i64 0) := (blk_cell BK37002.out 0).trans rfl
          have hcz20_1 : wc.cell? ⟨gb37002, 1, none⟩ = some (.slice none 0 0) := (blk_cell BK37002.out 1).trans rfl
          have hcz20_2 : wc.cell? ⟨gb37002, 2, none⟩ = some (.slice none 0 0) := (blk_cell BK37002.out 2).trans rfl
          have hfz20_0 := blk_frozen BK37002.out 0
          have hfz20_1 := blk_frozen BK37002.out 1
          have hfz20_2 := blk_frozen BK37002.out 2
          go_wp2
          refine bodyPost_ret (results_ct rfl _ _ gb37002 44 #[.int .i64 0, .slice none 0 0, .slice none 0 0] (0, 0) _ rfl (by (with_reducible repeat (first | refine blk_drewN ?_ _ | refine blk_drew ?_ | refine blk_alloc ?_ _)); refine blk_put (cs := #[.int .i64 0, .slice none 0 0, .slice none 0 0]) ?_ 2 _ rfl; (with_reducible repeat (first | refine blk_drewN ?_ _ | refine blk_drew ?_ | refine blk_alloc ?_ _)); refine blk_put (cs := #[.int .i64 0, .slice none 0 0, .slice none 0 0]) ?_ 1 _ rfl; (with_reducible repeat (first | refine blk_drewN ?_ _ | refine blk_drew ?_ | refine blk_alloc ?_ _)); refine blk_put (cs := #[.int .i64 0, .slice none 0 0, .slice none 0 0]) ?_ 0 _ rfl; exact blk_ext BK37002.out) Try.underlying44 rfl (by kernel_rfl)) rfl ?_
          exact ⟨_, _, by first | rfl | (simp [errW_none, errW_some] <;> rfl) | (simp [*, errW_none, errW_some] <;> rfl), by first | exact Kd.R_nil _ _ _ _ _ | exact Kd.N_nil _ _ _ _ _ | exact Kd.V_nil _ _ _ _ _ | exact Kd.Q_nil _ _ _ _ _ | exact Kd.S_nil _ _ _ _ _, by first | exact Kd.R_nil _ _ _ _ _ | exact Kd.N_nil _ _ _ _ _ | exact Kd.V_nil _ _ _ _ _ | exact Kd.Q_nil _ _ _ _ _ | exact Kd.S_nil _ _ _ _ _, below_extB HB.out⟩
        · rw [if_neg c17] at H
          have c17b0 : decide ((wrap64 (1000 - (l0_1.length : Int))) < (wrap64 (a1 - a0_0))) = false := decide_eq_false c17
          clear c17
          replace H := Option.bind_eq_some_iff.mp H
          obtain ⟨⟨t37003, t37004, t37007⟩, A210, H⟩ := H
          replace H : (channel_Transmit.l0 kj2 a1 (wrap64 (t37003 + 1)) t37003 t37004 t37007) = some (r1, r2, r3, r4) := H
          have A21 := Aside0.mk A210
          clear A210
          have H' := Aside0.mk H
          clear H
          have hnb22 := NB37001_37002.out
          have hnc22 := NB37002_37001.out
          have hcz23_0 : wc.cell? ⟨gb37001, 0, none⟩ = some (.int .i64 a0_0) := (blk_cell BK37001.out 0).trans rfl
          have hcz23_1 : wc.cell? ⟨gb37001, 1, none⟩ = some (.slice A0_1 l0_1.length c0_1) := (blk_cell BK37001.out 1).trans rfl
          have hcz23_2 : wc.cell? ⟨gb37001, 2, none⟩ = some (.slice A0_2 l0_2.length c0_2) := (blk_cell BK37001.out 2).trans rfl
          have hfz23_0 := blk_frozen BK37001.out 0
          have hfz23_1 := blk_frozen BK37001.out 1
          have hfz23_2 := blk_frozen BK37001.out 2
          go_wp2_with (first | ((with_reducible refine gate_callee (f := 70) rfl ?_); refine goesL_ (some 34) rfl rfl Try.func70 (by kernel_rfl) rfl #[.agg #[.int .i64 a0_0, .slice A0_1 l0_1.length c0_1, .slice A0_2 l0_2.length c0_2]] rfl (by (try simp only [List.map_toArray, List.map_cons, List.map_nil]); first | done | rfl | (simp only [List.length_drop, List.length_take]; rfl)) ?_; (with_reducible refine (channel_copied.calls a0_0 _ _ l0_1 _ _ l0_2 t37003 t37004 t37007 _ ?side1 ?side2 ?side3 ?side4 A21.out).mono ?_); (case side1 => repeat (first | exact (Kd.C_below HR0_1.out HB.out) | (with_reducible refine Kd.C_alloc ?_ _) | (with_reducible refine Kd.C_drewN ?_ _) | (with_reducible refine Kd.C_drew ?_))); (case side2 => exact HC0_1.out); (case side3 => repeat (first | exact (Kd.C_below HR0_2.out HB.out) | (with_reducible refine Kd.C_alloc ?_ _) | (with_reducible refine Kd.C_drewN ?_ _) | (with_reducible refine Kd.C_drew ?_))); (case side4 => exact HC0_2.out); rintro e w24 ⟨v37005, v37008, rfl, ho0, ho1, hb⟩; refine ⟨_, rfl, ?_⟩; have n0_ := Aside0.mk (Kd.R_lower ho0 (below_size (below_extB HB.out))); have n1_ := Aside0.mk (Kd.R_lower ho1 (below_size (below_extB HB.out))); have HO37006 := n0_; have HO37009 := n1_; replace BK37001 := mvB BK37001 hb; replace BK37002 := mvB BK37002 hb; replace HB := mvH HB hb; clear n0_ n1_; (try clear hb); (try clear hb2); (try clear hk); (try clear hi); (try clear ho0); (try clear ho1); have hcz25_0 : w24.cell? ⟨gb37001, 0, none⟩ = some (.int .i64 a0_0) := (blk_cell BK37001.out 0).trans rfl; have hcz25_1 : w24.cell? ⟨gb37001, 1, none⟩ = some (.slice A0_1 l0_1.length c0_1) := (blk_cell BK37001.out 1).trans rfl; have hcz25_2 : w24.cell? ⟨gb37001, 2, none⟩ = some (.slice A0_2 l0_2.length c0_2) := (blk_cell BK37001.out 2).trans rfl; have hfz25_0 := blk_frozen BK37001.out 0; have hfz25_1 := blk_frozen BK37001.out 1; have hfz25_2 := blk_frozen BK37001.out 2; obtain ⟨Ao26, co26, eo26⟩ := Kd.R_slice HO37006.out; subst eo26; obtain ⟨Ao27, co27, eo27⟩ := Kd.R_slice HO37009.out; subst eo27))
          go_loopg [6] kj2 (fun kq v6 w' => ∃ (x6_2 : Int) (x37002001_2 : List Int) (u37002001 : Value), v6 = .int .i64 x6_2 ∧ Aside0 (channel_Transmit.l0 kq a1 x6_2 t37003 x37002001_2 t37007 = some (r1, r2, r3, r4)) ∧ Aside0 (kq ≤ kj2) ∧ Aside0 (Kd.R (Kd.int .i64) 3 w' w.heap.size (fun k_ => some k_ ≠ ((.slice Ao27 t37007.length co27) : Value).ownBlock) u37002001 x37002001_2) ∧ Aside0 (Kd.R (Kd.int .i64) 3 w' w.heap.size (fun k_ => some k_ ≠ (u37002001 : Value).ownBlock) (.slice Ao27 t37007.length co27) t37007) ∧ Aside0 (w'.heap[gb37001]? = some (.cells #[.int .i64 t37003, u37002001, (.slice Ao27 t37007.length co27)] 44 (0, 0))) ∧ Aside0 (w'.heap[gb37002]? = some (.cells #[.int .i64 0, (.slice none 0 0), (.slice none 0 0)] 44 (0, 0))) ∧ Aside0 (Below w.heap.size w w'))
          case atStart => exact ⟨(wrap64 (t37003 + 1)), (t37004), (.slice Ao26 t37004.length co26), (by first | rfl | (simp; done) | (simp [*]; done)), H', ⟨Nat.le_refl _⟩, ⟨Kd.R_ext (Kd.R_mono (Kd.R_far (p := ⟨gb37001, 2, none⟩) (Kd.R_far (p := ⟨gb37001, 1, none⟩) (Kd.R_far (p := ⟨gb37001, 0, none⟩) (Kd.R_types HO37006.out BK37001.out (by decide)) (fun _ hk => hk.2) (.int .i64 t37003)) (fun _ hk => hk.2) (.slice Ao26 t37004.length co26)) (fun _ hk => hk.2) (.slice Ao27 t37007.length co27)) (fun _ hk => hk.1))⟩, ⟨Kd.R_ext (Kd.R_mono (Kd.R_far (p := ⟨gb37001, 2, none⟩) (Kd.R_far (p := ⟨gb37001, 1, none⟩) (Kd.R_far (p := ⟨gb37001, 0, none⟩) (Kd.R_types HO37009.out BK37001.out (by decide)) (fun _ hk => hk.2) (.int .i64 t37003)) (fun _ hk => hk.2) (.slice Ao26 t37004.length co26)) (fun _ hk => hk.2) (.slice Ao27 t37007.length co27)) (fun _ hk => hk.1))⟩, ⟨by (with_reducible repeat (first | refine blk_drewN ?_ _ | refine blk_drew ?_ | refine blk_alloc ?_ _)); refine blk_put (cs := #[.int .i64 t37003, .slice Ao26 t37004.length co26, .slice A0_2 l0_2.length c0_2]) ?_ 2 _ rfl; (with_reducible repeat (first | refine blk_drewN ?_ _ | refine blk_drew ?_ | refine blk_alloc ?_ _)); refine blk_put (cs := #[.int .i64 t37003, .slice A0_1 l0_1.length c0_1, .slice A0_2 l0_2.length c0_2]) ?_ 1 _ rfl; (with_reducible repeat (first | refine blk_drewN ?_ _ | refine blk_drew ?_ | refine blk_alloc ?_ _)); refine blk_put (cs := #[.int .i64 a0_0, .slice A0_1 l0_1.length c0_1, .slice A0_2 l0_2.length c0_2]) ?_ 0 _ rfl; exact blk_ext BK37001.out⟩, ⟨blk_extC BK37002.out⟩, ⟨below_extB HB.out⟩⟩
          case round =>
            clear H'
            try clear c1
            try clear c2
            try clear p2
            try clear c3
            try clear c6
            try clear c6b0
            try clear p6
            try clear c7
            try clear c9
            try clear c9b0
            try clear c10
            try clear c12
            try clear c14
            try clear c15
            try clear c17
            try clear c17b0
            try clear c18
            try clear c22
            try clear hcz11_0
            try clear hcz11_1
            try clear hcz11_2
            try clear hcz13_0
            try clear hcz13_1
            try clear hcz13_2
            try clear hcz16_0
            try clear hcz16_1
            try clear hcz16_2
            try clear hcz19_0
            try clear hcz19_1
            try clear hcz19_2
            try clear hcz20_0
            try clear hcz20_1
            try clear hcz20_2
            try clear hcz23_0
            try clear hcz23_1
            try clear hcz23_2
            try clear hcz25_0
            try clear hcz25_1
            try clear hcz25_2
            try clear hcz8_0
            try clear hcz8_1
            try clear hcz8_2
            try clear hfz11_0
            try clear hfz11_1
            try clear hfz11_2
            try clear hfz13_0
            try clear hfz13_1
            try clear hfz13_2
            try clear hfz16_0
            try clear hfz16_1
            try clear hfz16_2
            try clear hfz19_0
            try clear hfz19_1
            try clear hfz19_2
            try clear hfz20_0
            try clear hfz20_1
            try clear hfz20_2
            try clear hfz23_0
            try clear hfz23_1
            try clear hfz23_2
            try clear hfz25_0
            try clear hfz25_1
            try clear hfz25_2
            try clear hfz8_0
            try clear hfz8_1
            try clear hfz8_2
            try clear p2
            obtain ⟨x6_2, x37002001_2, u37002001, rfl, HA, HK2, HO_37002001, HO_37002002, BK37001, BK37002, HB⟩ := hrel
            cases gk with
            | zero => exact absurd HA.out (by simp [channel_Transmit.l0])
            | succ k2 =>
              have H := HA.out
              clear HA
              simp only [channel_Transmit.l0] at H
              by_cases c28 : x6_2 ≤ a1
              · rw [if_pos c28] at H
                have c28b0 : decide (x6_2 ≤ a1) = true := decide_eq_true c28
                clear c28
                replace H := if_some H; obtain ⟨c29, H⟩ := H
                have LMc29 := Aside0.mk c29
                clear c29
                obtain ⟨y37010, hy37010⟩ : ∃ y_ : List Int, y_ = (x37002001_2 ++ [x6_2]) := ⟨_, rfl⟩
                replace H : (channel_Transmit.l0 k2 a1 (wrap64 (x6_2 + 1)) t37003 y37010 t37007) = some (r1, r2, r3, r4) := by first | (rw [hy37010]; with_reducible exact H) | (have H2_ := (Option.bind_some _ _).symm.trans H; rw [hy37010]; with_reducible exact H2_) | (have H2_ := (Option.bind_some _ _).symm.trans H; with_reducible exact H2_) | with_reducible exact H | (rw [hy37010]; exact H) | exact H
                have Ny37010 := Aside0.mk hy37010
                clear hy37010
                have H' := Aside0.mk H
                clear H
                have hnb30 := NB37001_37002.out
                have hnc30 := NB37002_37001.out
                have hcz31_0 : wr.cell? ⟨gb37001, 0, none⟩ = some (.int .i64 t37003) := (blk_cell BK37001.out 0).trans rfl
                have hcz31_1 : wr.cell? ⟨gb37001, 1, none⟩ = some (u37002001) := (blk_cell BK37001.out 1).trans rfl
                have hcz31_2 : wr.cell? ⟨gb37001, 2, none⟩ = some (.slice Ao27 t37007.length co27) := (blk_cell BK37001.out 2).trans rfl
                have hfz31_0 := blk_frozen BK37001.out 0
                have hfz31_1 := blk_frozen BK37001.out 1
                have hfz31_2 := blk_frozen BK37001.out 2
                go_wp2_with (first | ((with_reducible refine gate_builtin (b := .append) (xs := #[.tmp 44, .tmp 46]) rfl ?_); at_builtin; refine Kd.R_append (Kd.int .i64) (w0 := w) w.heap.size rfl (.tmp 44) (.tmp 46) 42 3 (.int .i64 0) 8 rfl Try.underlying42 info3 rfl (by decide) (by omega) u37002001 x37002001_2 x6_2 [.int .i64 x6_2] (fun k_ => some k_ ≠ (.slice Ao27 t37007.length co27 : Value).ownBlock) (fun _ => False) rfl rfl ?aP (fun _ hk => hk.elim) ?aF ?aO ?aB ?aS ?aL ?_; (case aP => exact rfl); (case aB => exact (below_extB HB.out)); (case aF => exact (fun k_ hk => Kd.fresh' (Kd.R_lt (Kd.R_ext HO_37002002.out)) k_ hk)); (case aO => exact (Kd.R_ext HO_37002001.out)); (case aS => exact (below_size (below_extB HB.out))); (case aL => have := LMc29.out; omega); intro v37011 w32 ho hb hg hat; rw [← Ny37010.out] at ho; have n0_ := Aside0.mk (Kd.R_after (ok := (fun _ => True)) (Kd.R_ext (Kd.R_mono HO_37002002.out (fun _ hk => ⟨trivial, hk⟩))) hg hat); have n1_ := Aside0.mk (blk_grown (g := gb37001) (o := .cells #[.int .i64 t37003, u37002001, .slice Ao27 t37007.length co27] 44 (0, 0)) (blk_ext BK37001.out) hg (Kd.R_ne HO_37002001.out BK37001.out (by decide))); have n2_ := Aside0.mk (blk_grown (g := gb37002) (o := .cells #[.int .i64 0, .slice none 0 0, .slice none 0 0] 44 (0, 0)) (blk_ext BK37002.out) hg (Kd.R_ne HO_37002001.out BK37002.out (by decide))); have n3_ := Aside0.mk (hb); have n4_ := Aside0.mk (ho); clear HO_37002002; clear BK37001; clear BK37002; clear HB; clear HO_37002001; have HO_37002002 := n0_; have BK37001 := n1_; have BK37002 := n2_; have HB := n3_; have HO37012 := n4_; clear n0_ n1_ n2_ n3_ n4_; clear ho hb hg hat; obtain ⟨Ao33, co33, eo33⟩ := Kd.R_slice HO37012.out; subst eo33; have hcz34_0 : w32.cell? ⟨gb37001, 0, none⟩ = some (.int .i64 t37003) := (blk_cell BK37001.out 0).trans rfl; have hcz34_1 : w32.cell? ⟨gb37001, 1, none⟩ = some (u37002001) := (blk_cell BK37001.out 1).trans rfl; have hcz34_2 : w32.cell? ⟨gb37001, 2, none⟩ = some (.slice Ao27 t37007.length co27) := (blk_cell BK37001.out 2).trans rfl; have hfz34_0 := blk_frozen BK37001.out 0; have hfz34_1 := blk_frozen BK37001.out 1; have hfz34_2 := blk_frozen BK37001.out 2))
                go_roundg k2
                case measure => have := HJ2.out; have := HK2.out; omega
                case rel => exact ⟨(wrap64 (x6_2 + 1)), (y37010), (.slice Ao33 y37010.length co33), (by first | rfl | (simp; done) | (simp [*]; done)), H', ⟨by have := HJ2.out; have := HK2.out; omega⟩, ⟨Kd.R_ext (Kd.R_mono (Kd.R_far (p := ⟨gb37001, 1, none⟩) (Kd.R_types HO37012.out BK37001.out (by decide)) (fun _ hk => hk.2) (.slice Ao33 y37010.length co33)) (fun _ hk => hk.1))⟩, ⟨Kd.R_ext (Kd.R_mono (Kd.R_far (p := ⟨gb37001, 1, none⟩) (Kd.R_types HO_37002002.out BK37001.out (by decide)) (fun _ hk => hk.2) (.slice Ao33 y37010.length co33)) (fun _ hk => hk.1.2))⟩, ⟨by (with_reducible repeat (first | refine blk_drewN ?_ _ | refine blk_drew ?_ | refine blk_alloc ?_ _)); refine blk_put (cs := #[.int .i64 t37003, u37002001, .slice Ao27 t37007.length co27]) ?_ 1 _ rfl; exact blk_ext BK37001.out⟩, ⟨blk_extC BK37002.out⟩, ⟨below_extB HB.out⟩⟩
              · rw [if_neg c28] at H
                have c28b0 : decide (x6_2 ≤ a1) = false := decide_eq_false c28
                clear c28
                simp only [Option.some.injEq, Prod.mk.injEq] at H
                obtain ⟨rfl, rfl, rfl, rfl⟩ := H
                have hnb35 := NB37001_37002.out
                have hnc35 := NB37002_37001.out
                have hcz36_0 : wr.cell? ⟨gb37001, 0, none⟩ = some (.int .i64 t37003) := (blk_cell BK37001.out 0).trans rfl
                have hcz36_1 : wr.cell? ⟨gb37001, 1, none⟩ = some (u37002001) := (blk_cell BK37001.out 1).trans rfl
                have hcz36_2 : wr.cell? ⟨gb37001, 2, none⟩ = some (.slice Ao27 t37007.length co27) := (blk_cell BK37001.out 2).trans rfl
                have hfz36_0 := blk_frozen BK37001.out 0
                have hfz36_1 := blk_frozen BK37001.out 1
                have hfz36_2 := blk_frozen BK37001.out 2
                have hcz37_0 : wr.cell? ⟨gb37002, 0, none⟩ = some (.int .i64 0) := (blk_cell BK37002.out 0).trans rfl
                have hcz37_1 : wr.cell? ⟨gb37002, 1, none⟩ = some (.slice none 0 0) := (blk_cell BK37002.out 1).trans rfl
                have hcz37_2 : wr.cell? ⟨gb37002, 2, none⟩ = some (.slice none 0 0) := (blk_cell BK37002.out 2).trans rfl
                have hfz37_0 := blk_frozen BK37002.out 0
                have hfz37_1 := blk_frozen BK37002.out 1
                have hfz37_2 := blk_frozen BK37002.out 2
                obtain ⟨Ao38, co38, eo38⟩ := Kd.R_slice HO_37002001.out
                subst eo38
                go_wp2
                refine bodyPost_ret (results_ct rfl _ _ gb37002 44 #[.int .i64 t37003, .slice Ao38 x37002001_2.length co38, .slice Ao27 t37007.length co27] (0, 0) _ rfl (by (with_reducible repeat (first | refine blk_drewN ?_ _ | refine blk_drew ?_ | refine blk_alloc ?_ _)); refine blk_put (cs := #[.int .i64 t37003, .slice Ao38 x37002001_2.length co38, .slice none 0 0]) ?_ 2 _ rfl; (with_reducible repeat (first | refine blk_drewN ?_ _ | refine blk_drew ?_ | refine blk_alloc ?_ _)); refine blk_put (cs := #[.int .i64 t37003, .slice none 0 0, .slice none 0 0]) ?_ 1 _ rfl; (with_reducible repeat (first | refine blk_drewN ?_ _ | refine blk_drew ?_ | refine blk_alloc ?_ _)); refine blk_put (cs := #[.int .i64 0, .slice none 0 0, .slice none 0 0]) ?_ 0 _ rfl; exact blk_ext BK37002.out) Try.underlying44 rfl (by kernel_rfl)) rfl ?_
                exact ⟨_, _, by first | rfl | (simp [errW_none, errW_some] <;> rfl) | (simp [*, errW_none, errW_some] <;> rfl), Kd.R_ext (Kd.R_mono (Kd.R_far (p := ⟨gb37002, 2, none⟩) (Kd.R_far (p := ⟨gb37002, 1, none⟩) (Kd.R_far (p := ⟨gb37002, 0, none⟩) (Kd.R_types HO_37002001.out BK37002.out (by decide)) (fun _ hk => hk.2) (.int .i64 t37003)) (fun _ hk => hk.2) (.slice Ao38 x37002001_2.length co38)) (fun _ hk => hk.2) (.slice Ao27 t37007.length co27)) (fun _ hk => hk.1)), Kd.R_ext (Kd.R_mono (Kd.R_far (p := ⟨gb37002, 2, none⟩) (Kd.R_far (p := ⟨gb37002, 1, none⟩) (Kd.R_far (p := ⟨gb37002, 0, none⟩) (Kd.R_types HO_37002002.out BK37002.out (by decide)) (fun _ hk => hk.2) (.int .i64 t37003)) (fun _ hk => hk.2) (.slice Ao38 x37002001_2.length co38)) (fun _ hk => hk.2) (.slice Ao27 t37007.length co27)) (fun _ hk => hk.1)), below_extB HB.out⟩

end Go.Proofs.Ytfljnggpnndmkaa.Z
