/- Written by a program of this session: each Go function as a plain Lean function, and that the machine's call does what it says. Conditions: none but those each theorem states. -/
import Derived.Test.YtfljnggpnndmkaaZ0
import Derived.Test.YtfljnggpnndmkaaZcustomsref33out
namespace Go.Proofs.Ytfljnggpnndmkaa.Z
open Go.RowKit Go.Proofs.YtfljnggpnndmkaaW.PrintWords Go.Proofs.YtfljnggpnndmkaaW.PrintLast Go.Proofs.YtfljnggpnndmkaaW.PrintMore
attribute [local go_sem] max2_int min2_int max_two min_two max_three min_three max_four min_four   -- for this text's walks alone
set_option linter.unusedVariables false
set_option linter.unusedSimpArgs false

/-! ### customsref33_Deliver: function 40 -/
def customsref33_Deliver.j0 : Nat → Int → Int → Bool → Int → List Int → List Int → Option (Int × List Int × List Int × Int × Int)
  | 0, _, _, _, _, _, _ => none
  | k + 1, x1, x2, x27, x40002000, x40002001, x40002002 => if x27 = true then (some (0, ([] : List Int), ([] : List Int), 0, 2)) else (if 0 ≤ x1 then (if x1 < (x40002001.length : Int) then (if (rd x40002001 x1) = (wrap64 (x2 + 1)) then ((customsref33_out.f x40002001 x1).bind fun t40004 => ((some (([] : List Int) : List Int)).bind fun y40007 => (if y40007.length + x40002002.length < 17592186044416 then ((some (y40007 ++ x40002002 : List Int)).bind fun y40010 => ((some (([rd x40002001 x1] : List Int) : List Int)).bind fun y40013 => (if y40010.length + y40013.length < 17592186044416 then (some (x40002000, t40004, (y40010 ++ y40013), rd x40002001 x1, 0)) else (none)))) else (none)))) else ((customsref33_out.f x40002001 x1).bind fun t40019 => ((some (([] : List Int) : List Int)).bind fun y40022 => (if y40022.length + x40002002.length < 17592186044416 then ((some (y40022 ++ x40002002 : List Int)).bind fun y40025 => ((some (([x2] : List Int) : List Int)).bind fun y40028 => (if y40025.length + y40028.length < 17592186044416 then (some (x40002000, t40019, (y40025 ++ y40028), rd x40002001 x1, 0)) else (none)))) else (none))))) else (none)) else (none))
def customsref33_Deliver.f (k : Nat) (a0_0 : Int) (l0_1 : List Int) (l0_2 : List Int) (a1 : Int) (a2 : Int) : Option (Int × List Int × List Int × Int × Int) := if a1 < 0 then (customsref33_Deliver.j0 k a1 a2 true a0_0 l0_1 l0_2) else (if a1 ≥ (l0_1.length : Int) then (customsref33_Deliver.j0 k a1 a2 true a0_0 l0_1 l0_2) else (if a2 < 0 then (customsref33_Deliver.j0 k a1 a2 true a0_0 l0_1 l0_2) else (customsref33_Deliver.j0 k a1 a2 (decide (a2 > 1000000)) a0_0 l0_1 l0_2)))
theorem customsref33_Deliver.mono_l : ∀ k, (∀ y0 y1 y2 y3 y4 y5, LeO (customsref33_Deliver.j0 k y0 y1 y2 y3 y4 y5) (customsref33_Deliver.j0 (k + 1) y0 y1 y2 y3 y4 y5))
  | 0 => fun _ _ _ _ _ _ r h => by simp [customsref33_Deliver.j0] at h
  | k + 1 => by
    have ih0 := customsref33_Deliver.mono_l k
    · intro y0 y1 y2 y3 y4 y5
      unfold customsref33_Deliver.j0
      repeat' first
      | (with_reducible exact ih0 _ _ _ _ _ _)
      | (with_reducible exact LeO.refl _)
      | (with_reducible exact LeO.none _)
      | (with_reducible refine LeO.ite ?_ ?_)
      | (with_reducible refine LeO.bind ?_ (fun _ => ?_))
      | exact ih0 _ _ _ _ _ _
      | exact LeO.none _
      | refine LeO.ite ?_ ?_
      | refine LeO.bind ?_ (fun _ => ?_)
theorem customsref33_Deliver.mono : ∀ a0 a1 a2 a3 a4 k, LeO (customsref33_Deliver.f k a0 a1 a2 a3 a4) (customsref33_Deliver.f (k + 1) a0 a1 a2 a3 a4) := by
  intro a0 a1 a2 a3 a4 k
  have ih0 := customsref33_Deliver.mono_l k
  unfold customsref33_Deliver.f
  repeat' first
      | (with_reducible exact ih0 _ _ _ _ _ _)
      | (with_reducible exact LeO.refl _)
      | (with_reducible exact LeO.none _)
      | (with_reducible refine LeO.ite ?_ ?_)
      | (with_reducible refine LeO.bind ?_ (fun _ => ?_))
      | exact ih0 _ _ _ _ _ _
      | exact LeO.none _
      | refine LeO.ite ?_ ?_
      | refine LeO.bind ?_ (fun _ => ?_)
def customsref33_Deliver.T7 : Bool × List (List Nat × List Nat) := (true, [([], []), ([0], [0]), ([], []), ([2], [2]), ([], []), ([3, 4], [3, 4]), ([], []), ([], []), ([7], [7]), ([6, 8, 5], [6, 8]), ([], []), ([10], [10]), ([9, 11, 9], [9, 11]), ([1, 5, 12], [1, 5, 12]), ([], []), ([13, 12, 0, 1, 2, 3, 4, 5, 6, 7, 8, 9, 10, 11, 12, 13], [13]), ([14, 15, 0, 1, 2, 3, 4, 5, 6, 7, 8, 9, 10, 11, 12, 13, 14, 15], [14]), ([16, 0, 1, 2, 3, 4, 5, 6, 7, 8, 9, 10, 11, 12, 13, 14, 15, 16], [])])
def customsref33_Deliver.B7 : List Nat := [0, 1, 0, 4, 0, 28, 0, 0, 128, 508, 0, 1024, 4092, 8191, 0, 16383, 65535, 131071]
theorem customsref33_Deliver.tab7 : rtab .any (opsOf Try.f40 7) = customsref33_Deliver.T7 := by kernel_rfl
theorem customsref33_Deliver.bits7 : waitsOk customsref33_Deliver.T7.2 customsref33_Deliver.B7 = true := by kernel_rfl
set_option maxHeartbeats 8000000 in
set_option maxRecDepth 100000 in
theorem customsref33_Deliver.calls (k : Nat) (a0_0 : Int) (A0_1 : Option Addr) (c0_1 : Nat) (l0_1 : List Int) (A0_2 : Option Addr) (c0_2 : Nat) (l0_2 : List Int) (a1 : Int) (a2 : Int) (r1 : Int) (r2 : List Int) (r3 : List Int) (r4 : Int) (r5 : Int) (w : World) (hr0_1 : Kd.C (Kd.int .i64) w A0_1 l0_1.length l0_1) (hc0_1 : l0_1.length ≤ c0_1) (hr0_2 : Kd.C (Kd.int .i64) w A0_2 l0_2.length l0_2) (hc0_2 : l0_2.length ≤ c0_2) (h : customsref33_Deliver.f k a0_0 l0_1 l0_2 a1 a2 = some (r1, r2, r3, r4, r5)) :
    Calls Try.prog 40 #[.agg #[.int .i64 a0_0, .slice A0_1 l0_1.length c0_1, .slice A0_2 l0_2.length c0_2], .int .i64 a1, .int .i64 a2] w fun e w' => ∃ v1_ v2_ : Value, e = .returned (.tuple #[.agg #[.int .i64 r1, v1_, v2_], .int .i64 r4, .int .i64 r5]) ∧ Kd.R (Kd.int .i64) 3 w' w.heap.size (fun k_ => some k_ ≠ (v2_ : Value).ownBlock) v1_ r2 ∧ Kd.R (Kd.int .i64) 3 w' w.heap.size (fun k_ => some k_ ≠ (v1_ : Value).ownBlock) v2_ r3 ∧ Below w.heap.size w w' := by
  have hu44 := Try.underlying44
  have HR0_1 := Aside0.mk hr0_1
  have HC0_1 := Aside0.mk hc0_1
  clear hr0_1 hc0_1
  have HR0_2 := Aside0.mk hr0_2
  have HC0_2 := Aside0.mk hc0_2
  clear hr0_2 hc0_2
  have HB := Aside0.mk (Below.refl w.heap.size w)
  have H : (if a1 < 0 then (customsref33_Deliver.j0 k a1 a2 true a0_0 l0_1 l0_2) else (if a1 ≥ (l0_1.length : Int) then (customsref33_Deliver.j0 k a1 a2 true a0_0 l0_1 l0_2) else (if a2 < 0 then (customsref33_Deliver.j0 k a1 a2 true a0_0 l0_1 l0_2) else (customsref33_Deliver.j0 k a1 a2 (decide (a2 > 1000000)) a0_0 l0_1 l0_2)))) = some (r1, r2, r3, r4, r5) := h
  clear h
  have HC4 := Aside0.mk H
  clear H
  go_enter Try.func40, Try.ntmps40
  go_upto_region 1 with (first | ((with_reducible refine gate_dst (N := 3) rfl ?_); (try (refine gate_guard (by rfl) ?_; dsimp only)); refine box_event ?hg (N := 3) ?hd (cs := #[.int .i64 a0_0, .slice A0_1 l0_1.length c0_1, .slice A0_2 l0_2.length c0_2]) (t := 44) ?hr ?_; (case hd => rfl); (case hg => rfl); (case hr => first | (go_simp; done) | (go_simp; rfl)); intro gb40001 hg w5 hbox hb; have n1_ := Aside0.mk (hbox); have n2_ := Aside0.mk ((by rw [hg]; exact (below_size (below_ext HB.out)) : w.heap.size ≤ gb40001)); have n3_ := Aside0.mk ((by rw [hg]; exact (below_size (below_ext HB.out)) : w.heap.size ≤ gb40001)); have BK40001 := n1_; have GW40001 := n2_; have GE40001 := n3_; have GI40001 := GE_.mk GE40001.out; replace HB := mvH HB hb; clear n1_ n2_ n3_; clear hb hbox hg) | ((with_reducible refine gate_dst (N := 6) rfl ?_); (try (refine gate_guard (by rfl) ?_; dsimp only)); refine box_event ?hg (N := 6) ?hd (cs := #[.int .i64 0, .slice none 0 0, .slice none 0 0]) (t := 44) ?hr ?_; (case hd => rfl); (case hg => rfl); (case hr => first | (go_simp; done) | (go_simp; rfl)); intro gb40002 hg w6 hbox hb; have n2_ := Aside0.mk (hbox); have n3_ := Aside0.mk ((by rw [hg]; exact (below_size (below_extB HB.out)) : w.heap.size ≤ gb40002)); have n4_ := Aside0.mk ((by rw [hg]; exact (below_size (below_extB HB.out)) : w.heap.size ≤ gb40002)); have n5_ := Aside0.mk ((by rw [hg]; exact Nat.ne_of_lt (blk_lt (blk_ext BK40001.out)) : gb40001 ≠ gb40002)); have n6_ := Aside0.mk ((by rw [hg]; exact Nat.ne_of_gt (blk_lt (blk_ext BK40001.out)) : gb40002 ≠ gb40001)); have BK40002 := n2_; have GW40002 := n3_; have GE40002 := n4_; have GI40002 := GE_.mk GE40002.out; have NB40001_40002 := n5_; have NB40002_40001 := n6_; replace BK40001 := mvB BK40001 hb; replace HB := mvH HB hb; clear n2_ n3_ n4_ n5_ n6_; clear hb hbox hg))
  (try simp only [Act.put, List.setIfInBounds_toArray, List.set_cons_zero, List.set_cons_succ])
  go_cut [27] (fun v27 wc => ∃ (kq : Nat) (x27_3 : Bool), v27 = .bool x27_3 ∧ Aside0 (customsref33_Deliver.j0 kq a1 a2 x27_3 a0_0 l0_1 l0_2 = some (r1, r2, r3, r4, r5)) ∧ Aside0 (kq ≤ k) ∧ Aside0 (wc.heap[gb40001]? = some (.cells #[.int .i64 a0_0, (.slice A0_1 l0_1.length c0_1), (.slice A0_2 l0_2.length c0_2)] 44 (0, 0))) ∧ Aside0 (wc.heap[gb40002]? = some (.cells #[.int .i64 0, (.slice none 0 0), (.slice none 0 0)] 44 (0, 0))) ∧ Aside0 (Below w.heap.size w wc))
  case first =>
    have H := HC4.out
    clear HC4
    by_cases c7 : a1 < 0
    · rw [if_pos c7] at H
      have c7b0 : decide (a1 < 0) = true := decide_eq_true c7
      clear c7
      (first | rw [c7b0] | (simp only [i64_w, i32_w]; rw [c7b0]) | skip)
      have H' := Aside0.mk H
      clear H
      go_wp2
      go_meet
      case rel => exact ⟨_, (true), (by first | rfl | (simp; done) | (simp [*]; done)), H', ⟨by first | omega | exact Nat.le_refl _⟩, ⟨blk_ext BK40001.out⟩, ⟨blk_ext BK40002.out⟩, ⟨below_extB HB.out⟩⟩
    · rw [if_neg c7] at H
      have c7b0 : decide (a1 < 0) = false := decide_eq_false c7
      clear c7
      (first | rw [c7b0] | (simp only [i64_w, i32_w]; rw [c7b0]) | skip)
      by_cases c8 : a1 ≥ (l0_1.length : Int)
      · rw [if_pos c8] at H
        have c8b0 : decide ((l0_1.length : Int) ≤ a1) = true := decide_eq_true c8
        clear c8
        have H' := Aside0.mk H
        clear H
        have hnb9 := NB40001_40002.out
        have hnc9 := NB40002_40001.out
        have hcz10_0 : w6.cell? ⟨gb40001, 0, none⟩ = some (.int .i64 a0_0) := (blk_cell BK40001.out 0).trans rfl
        have hcz10_1 : w6.cell? ⟨gb40001, 1, none⟩ = some (.slice A0_1 l0_1.length c0_1) := (blk_cell BK40001.out 1).trans rfl
        have hcz10_2 : w6.cell? ⟨gb40001, 2, none⟩ = some (.slice A0_2 l0_2.length c0_2) := (blk_cell BK40001.out 2).trans rfl
        have hfz10_0 := blk_frozen BK40001.out 0
        have hfz10_1 := blk_frozen BK40001.out 1
        have hfz10_2 := blk_frozen BK40001.out 2
        go_wp2
        go_meet
        case rel => exact ⟨_, (true), (by first | rfl | (simp; done) | (simp [*]; done)), H', ⟨by first | omega | exact Nat.le_refl _⟩, ⟨blk_ext BK40001.out⟩, ⟨blk_ext BK40002.out⟩, ⟨below_extB HB.out⟩⟩
      · rw [if_neg c8] at H
        have c8b0 : decide ((l0_1.length : Int) ≤ a1) = false := decide_eq_false c8
        clear c8
        by_cases c11 : a2 < 0
        · rw [if_pos c11] at H
          have c11b0 : decide (a2 < 0) = true := decide_eq_true c11
          clear c11
          have H' := Aside0.mk H
          clear H
          have hnb12 := NB40001_40002.out
          have hnc12 := NB40002_40001.out
          have hcz13_0 : w6.cell? ⟨gb40001, 0, none⟩ = some (.int .i64 a0_0) := (blk_cell BK40001.out 0).trans rfl
          have hcz13_1 : w6.cell? ⟨gb40001, 1, none⟩ = some (.slice A0_1 l0_1.length c0_1) := (blk_cell BK40001.out 1).trans rfl
          have hcz13_2 : w6.cell? ⟨gb40001, 2, none⟩ = some (.slice A0_2 l0_2.length c0_2) := (blk_cell BK40001.out 2).trans rfl
          have hfz13_0 := blk_frozen BK40001.out 0
          have hfz13_1 := blk_frozen BK40001.out 1
          have hfz13_2 := blk_frozen BK40001.out 2
          go_wp2
          go_meet
          case rel => exact ⟨_, (true), (by first | rfl | (simp; done) | (simp [*]; done)), H', ⟨by first | omega | exact Nat.le_refl _⟩, ⟨blk_ext BK40001.out⟩, ⟨blk_ext BK40002.out⟩, ⟨below_extB HB.out⟩⟩
        · rw [if_neg c11] at H
          have c11b0 : decide (a2 < 0) = false := decide_eq_false c11
          clear c11
          have H' := Aside0.mk H
          clear H
          have hnb14 := NB40001_40002.out
          have hnc14 := NB40002_40001.out
          have hcz15_0 : w6.cell? ⟨gb40001, 0, none⟩ = some (.int .i64 a0_0) := (blk_cell BK40001.out 0).trans rfl
          have hcz15_1 : w6.cell? ⟨gb40001, 1, none⟩ = some (.slice A0_1 l0_1.length c0_1) := (blk_cell BK40001.out 1).trans rfl
          have hcz15_2 : w6.cell? ⟨gb40001, 2, none⟩ = some (.slice A0_2 l0_2.length c0_2) := (blk_cell BK40001.out 2).trans rfl
          have hfz15_0 := blk_frozen BK40001.out 0
          have hfz15_1 := blk_frozen BK40001.out 1
          have hfz15_2 := blk_frozen BK40001.out 2
          go_wp2
          go_meet
          case rel => exact ⟨_, (decide (a2 > 1000000)), (by first | rfl | (simp; done) | (simp [*]; done)), H', ⟨by first | omega | exact Nat.le_refl _⟩, ⟨blk_ext BK40001.out⟩, ⟨blk_ext BK40002.out⟩, ⟨below_extB HB.out⟩⟩
  case rest =>
    clear HC4
    try clear c1
    try clear p2
    try clear c4
    try clear c7
    try clear c7b0
    try clear c8
    try clear c8b0
    try clear c9
    try clear c11
    try clear c11b0
    try clear c12
    try clear c14
    try clear hcz10_0
    try clear hcz10_1
    try clear hcz10_2
    try clear hcz13_0
    try clear hcz13_1
    try clear hcz13_2
    try clear hcz15_0
    try clear hcz15_1
    try clear hcz15_2
    try clear hfz10_0
    try clear hfz10_1
    try clear hfz10_2
    try clear hfz13_0
    try clear hfz13_1
    try clear hfz13_2
    try clear hfz15_0
    try clear hfz15_1
    try clear hfz15_2
    obtain ⟨kq, x27_3, rfl, HA, HJ3, BK40001, BK40002, HB⟩ := hcut
    cases kq with
    | zero => exact absurd HA.out (by simp [customsref33_Deliver.j0])
    | succ kj3 =>
      have H := HA.out
      clear HA
      simp only [customsref33_Deliver.j0] at H
      by_cases c16 : x27_3 = true
      · subst c16
        have H1 : (some (0, ([] : List Int), ([] : List Int), 0, 2)) = some (r1, r2, r3, r4, r5) := by rw [if_pos rfl] at H; exact H
        clear H
        have H := H1
        clear H1
        simp only [Option.some.injEq, Prod.mk.injEq] at H
        obtain ⟨rfl, rfl, rfl, rfl, rfl⟩ := H
        have hnb17 := NB40002_40001.out
        have hnc17 := NB40001_40002.out
        have hcz18_0 : wc.cell? ⟨gb40002, 0, none⟩ = some (.int .i64 0) := (blk_cell BK40002.out 0).trans rfl
        have hcz18_1 : wc.cell? ⟨gb40002, 1, none⟩ = some (.slice none 0 0) := (blk_cell BK40002.out 1).trans rfl
        have hcz18_2 : wc.cell? ⟨gb40002, 2, none⟩ = some (.slice none 0 0) := (blk_cell BK40002.out 2).trans rfl
        have hfz18_0 := blk_frozen BK40002.out 0
        have hfz18_1 := blk_frozen BK40002.out 1
        have hfz18_2 := blk_frozen BK40002.out 2
        go_wp2
        refine bodyPost_ret (results_ctt rfl _ _ gb40002 44 #[.int .i64 0, .slice none 0 0, .slice none 0 0] (0, 0) _ rfl (by (with_reducible repeat (first | refine blk_drewN ?_ _ | refine blk_drew ?_ | refine blk_alloc ?_ _)); refine blk_put (cs := #[.int .i64 0, .slice none 0 0, .slice none 0 0]) ?_ 2 _ rfl; (with_reducible repeat (first | refine blk_drewN ?_ _ | refine blk_drew ?_ | refine blk_alloc ?_ _)); refine blk_put (cs := #[.int .i64 0, .slice none 0 0, .slice none 0 0]) ?_ 1 _ rfl; (with_reducible repeat (first | refine blk_drewN ?_ _ | refine blk_drew ?_ | refine blk_alloc ?_ _)); refine blk_put (cs := #[.int .i64 0, .slice none 0 0, .slice none 0 0]) ?_ 0 _ rfl; exact blk_ext BK40002.out) Try.underlying44 rfl (by kernel_rfl)) rfl ?_
        exact ⟨_, _, by first | rfl | (simp [errW_none, errW_some] <;> rfl) | (simp [*, errW_none, errW_some] <;> rfl), by first | exact Kd.R_nil _ _ _ _ _ | exact Kd.N_nil _ _ _ _ _ | exact Kd.V_nil _ _ _ _ _ | exact Kd.Q_nil _ _ _ _ _ | exact Kd.S_nil _ _ _ _ _, by first | exact Kd.R_nil _ _ _ _ _ | exact Kd.N_nil _ _ _ _ _ | exact Kd.V_nil _ _ _ _ _ | exact Kd.Q_nil _ _ _ _ _ | exact Kd.S_nil _ _ _ _ _, below_extB HB.out⟩
      · replace c16 := Bool.eq_false_iff.mpr c16
        subst c16
        have H1 : (if 0 ≤ a1 then (if a1 < (l0_1.length : Int) then (if (rd l0_1 a1) = (wrap64 (a2 + 1)) then ((customsref33_out.f l0_1 a1).bind fun t40004 => ((some (([] : List Int) : List Int)).bind fun y40007 => (if y40007.length + l0_2.length < 17592186044416 then ((some (y40007 ++ l0_2 : List Int)).bind fun y40010 => ((some (([rd l0_1 a1] : List Int) : List Int)).bind fun y40013 => (if y40010.length + y40013.length < 17592186044416 then (some (a0_0, t40004, (y40010 ++ y40013), rd l0_1 a1, 0)) else (none)))) else (none)))) else ((customsref33_out.f l0_1 a1).bind fun t40019 => ((some (([] : List Int) : List Int)).bind fun y40022 => (if y40022.length + l0_2.length < 17592186044416 then ((some (y40022 ++ l0_2 : List Int)).bind fun y40025 => ((some (([a2] : List Int) : List Int)).bind fun y40028 => (if y40025.length + y40028.length < 17592186044416 then (some (a0_0, t40019, (y40025 ++ y40028), rd l0_1 a1, 0)) else (none)))) else (none))))) else (none)) else (none)) = some (r1, r2, r3, r4, r5) := by rw [if_neg (show ¬ (false = true) by decide)] at H; exact H
        clear H
        have H := H1
        clear H1
        by_cases c19 : 0 ≤ a1
        · rw [if_pos c19] at H
          have c19b0 : decide (0 ≤ a1) = true := decide_eq_true c19
          clear c19
          replace H := if_some H; obtain ⟨c20, H⟩ := H
          have c20b0 : decide (a1 < (l0_1.length : Int)) = true := decide_eq_true c20
          clear c20
          by_cases c21 : (rd l0_1 a1) = (wrap64 (a2 + 1))
          · rw [if_pos c21] at H
            have c21b0 : ((rd l0_1 a1) == (wrap64 (a2 + 1))) = true := beq_iff_eq.mpr c21
            have c21b1 : ((rd l0_1 a1) != (wrap64 (a2 + 1))) = false := bne_eq_false_iff_eq.mpr c21
            clear c21
            replace H := Option.bind_eq_some_iff.mp H
            obtain ⟨t40004, A220, H⟩ := H
            replace H : ((some (([] : List Int) : List Int)).bind fun y40007 => (if y40007.length + l0_2.length < 17592186044416 then ((some (y40007 ++ l0_2 : List Int)).bind fun y40010 => ((some (([rd l0_1 a1] : List Int) : List Int)).bind fun y40013 => (if y40010.length + y40013.length < 17592186044416 then (some (a0_0, t40004, (y40010 ++ y40013), rd l0_1 a1, 0)) else (none)))) else (none))) = some (r1, r2, r3, r4, r5) := H
            have A22 := Aside0.mk A220
            clear A220
            obtain ⟨y40007, hy40007⟩ : ∃ y_ : List Int, y_ = (([] : List Int)) := ⟨_, rfl⟩
            replace H : (if y40007.length + l0_2.length < 17592186044416 then ((some (y40007 ++ l0_2 : List Int)).bind fun y40010 => ((some (([rd l0_1 a1] : List Int) : List Int)).bind fun y40013 => (if y40010.length + y40013.length < 17592186044416 then (some (a0_0, t40004, (y40010 ++ y40013), rd l0_1 a1, 0)) else (none)))) else (none)) = some (r1, r2, r3, r4, r5) := by first | (rw [hy40007]; with_reducible exact H) | (have H2_ := (Option.bind_some _ _).symm.trans H; rw [hy40007]; with_reducible exact H2_) | (have H2_ := (Option.bind_some _ _).symm.trans H; with_reducible exact H2_) | with_reducible exact H | (rw [hy40007]; exact H) | exact H
            have Ny40007 := Aside0.mk hy40007
            clear hy40007
            replace H := if_some H; obtain ⟨c23, H⟩ := H
            have LMc23 := Aside0.mk c23
            clear c23
            obtain ⟨y40010, hy40010⟩ : ∃ y_ : List Int, y_ = (y40007 ++ l0_2) := ⟨_, rfl⟩
            replace H : ((some (([rd l0_1 a1] : List Int) : List Int)).bind fun y40013 => (if y40010.length + y40013.length < 17592186044416 then (some (a0_0, t40004, (y40010 ++ y40013), rd l0_1 a1, 0)) else (none))) = some (r1, r2, r3, r4, r5) := by first | (rw [hy40010]; with_reducible exact H) | (have H2_ := (Option.bind_some _ _).symm.trans H; rw [hy40010]; with_reducible exact H2_) | (have H2_ := (Option.bind_some _ _).symm.trans H; with_reducible exact H2_) | with_reducible exact H | (rw [hy40010]; exact H) | exact H
            have Ny40010 := Aside0.mk hy40010
            clear hy40010
            obtain ⟨y40013, hy40013⟩ : ∃ y_ : List Int, y_ = (([rd l0_1 a1] : List Int)) := ⟨_, rfl⟩
            replace H : (if y40010.length + y40013.length < 17592186044416 then (some (a0_0, t40004, (y40010 ++ y40013), rd l0_1 a1, 0)) else (none)) = some (r1, r2, r3, r4, r5) := by first | (rw [hy40013]; with_reducible exact H) | (have H2_ := (Option.bind_some _ _).symm.trans H; rw [hy40013]; with_reducible exact H2_) | (have H2_ := (Option.bind_some _ _).symm.trans H; with_reducible exact H2_) | with_reducible exact H | (rw [hy40013]; exact H) | exact H
            have Ny40013 := Aside0.mk hy40013
            clear hy40013
            replace H := if_some H; obtain ⟨c24, H⟩ := H
            have LMc24 := Aside0.mk c24
            clear c24
            obtain ⟨y40016, hy40016⟩ : ∃ y_ : List Int, y_ = (y40010 ++ y40013) := ⟨_, rfl⟩
            replace H : (some (a0_0, t40004, y40016, rd l0_1 a1, 0)) = some (r1, r2, r3, r4, r5) := by first | (rw [hy40016]; with_reducible exact H) | (have H2_ := (Option.bind_some _ _).symm.trans H; rw [hy40016]; with_reducible exact H2_) | (have H2_ := (Option.bind_some _ _).symm.trans H; with_reducible exact H2_) | with_reducible exact H | (rw [hy40016]; exact H) | exact H
            have Ny40016 := Aside0.mk hy40016
            clear hy40016
            simp only [Option.some.injEq, Prod.mk.injEq] at H
            obtain ⟨rfl, rfl, rfl, rfl, rfl⟩ := H
            have hnb25 := NB40001_40002.out
            have hnc25 := NB40002_40001.out
            have hcz26_0 : wc.cell? ⟨gb40001, 0, none⟩ = some (.int .i64 a0_0) := (blk_cell BK40001.out 0).trans rfl
            have hcz26_1 : wc.cell? ⟨gb40001, 1, none⟩ = some (.slice A0_1 l0_1.length c0_1) := (blk_cell BK40001.out 1).trans rfl
            have hcz26_2 : wc.cell? ⟨gb40001, 2, none⟩ = some (.slice A0_2 l0_2.length c0_2) := (blk_cell BK40001.out 2).trans rfl
            have hfz26_0 := blk_frozen BK40001.out 0
            have hfz26_1 := blk_frozen BK40001.out 1
            have hfz26_2 := blk_frozen BK40001.out 2
            have p40003 : 0 ≤ (a1 : Int) := of_decide_eq_true (by first | (with_reducible assumption) | assumption)
            have q40003 : a1 < (l0_1.length : Int) := of_decide_eq_true (by first | (with_reducible assumption) | assumption)
            obtain ⟨ad40003, e40003, hx40003_0⟩ := Kd.at_int HR0_1.out a1 p40003 q40003
            cases e40003
            replace hx40003_0 := (HB.out.cell (World.block_lt_of_cell? w _ hx40003_0)).trans hx40003_0
            replace p40003 := eq_true p40003
            replace q40003 := eq_true q40003
            try go_wp2
            have n0_ := Aside0.mk (blk_drew BK40001.out)
            have n1_ := Aside0.mk (blk_drew BK40002.out)
            have n2_ := Aside0.mk (below_drew1 HB.out)
            clear BK40001
            clear BK40002
            clear HB
            have BK40001 := n0_
            have BK40002 := n1_
            have HB := n2_
            clear n0_ n1_ n2_
            refine start_ (n := 18) (S := fun w' => w'.cell? ⟨gb40001, 0, none⟩ = some (.int .i64 a0_0) ∧ w'.cell? ⟨gb40001, 1, none⟩ = some (.slice (some ad40003) l0_1.length c0_1) ∧ w'.cell? ⟨gb40001, 2, none⟩ = some (.slice A0_2 l0_2.length c0_2)) (ds := []) #[false, false, false, false, false, false, false, false, false, false, false, false, false, false, false, false, false, false] (by kernel_rfl) rfl rfl ⟨(blk_cell BK40001.out 0).trans rfl, (blk_cell BK40001.out 1).trans rfl, (blk_cell BK40001.out 2).trans rfl⟩ (fun hHeld => ?_); refine with_tabW customsref33_Deliver.tab7 customsref33_Deliver.bits7 (fun HT_ HW_ => ?_)
            generalize wc.drew = w27 at BK40001 BK40002 HB hHeld ⊢
            refine pure_ (i := 0) (N := some 40) (v := ?_) (a' := ?_) #[true, false, false, false, false, false, false, false, false, false, false, false, false, false, false, false, false, false] rfl rfl (any_of HT_.out (by kernel_rfl)) (fun _ _ _ h => h) (Or.inl ⟨by rfl, ?_⟩) ?_ ?_
            rotate_left
            · intro w'
              go_simp
              with_reducible rfl
            rotate_left
            · simp only [Act.put, List.setIfInBounds_toArray, List.set_cons_zero, List.set_cons_succ, i64_w, i32_w]
              rfl
            refine pure_ (i := 2) (N := some 42) (v := ?_) (a' := ?_) #[true, false, true, false, false, false, false, false, false, false, false, false, false, false, false, false, false, false] rfl rfl (any_of HT_.out (by kernel_rfl)) (fun _ _ _ h => h) (Or.inl ⟨by rfl, ?_⟩) ?_ ?_
            rotate_left
            · intro w'
              go_simp
              with_reducible rfl
            rotate_left
            · simp only [Act.put, List.setIfInBounds_toArray, List.set_cons_zero, List.set_cons_succ, i64_w, i32_w]
              rfl
            refine pure_ (i := 4) (N := some 44) (v := ?_) (a' := ?_) #[true, false, true, false, true, false, false, false, false, false, false, false, false, false, false, false, false, false] rfl rfl (any_of HT_.out (by kernel_rfl)) (fun _ _ _ h => h) (Or.inl ⟨by rfl, ?_⟩) ?_ ?_
            rotate_left
            · intro w'
              go_simp
              with_reducible rfl
            rotate_left
            · simp only [Act.put, List.setIfInBounds_toArray, List.set_cons_zero, List.set_cons_succ, i64_w, i32_w]
              rfl
            refine pure_ (i := 7) (N := some 47) (v := ?_) (a' := ?_) #[true, false, true, false, true, false, false, true, false, false, false, false, false, false, false, false, false, false] rfl rfl (any_of HT_.out (by kernel_rfl)) (fun _ _ _ h => h) (Or.inl ⟨by rfl, ?_⟩) ?_ ?_
            rotate_left
            · intro w'
              go_simp
              with_reducible rfl
            rotate_left
            · simp only [Act.put, List.setIfInBounds_toArray, List.set_cons_zero, List.set_cons_succ, i64_w, i32_w]
              rfl
            refine pure_ (i := 10) (N := some 50) (v := ?_) (a' := ?_) #[true, false, true, false, true, false, false, true, false, false, true, false, false, false, false, false, false, false] rfl rfl (any_of HT_.out (by kernel_rfl)) (fun _ _ _ h => h) (Or.inl ⟨by rfl, ?_⟩) ?_ ?_
            rotate_left
            · intro w'
              go_simp
              with_reducible rfl
            rotate_left
            · simp only [Act.put, List.setIfInBounds_toArray, List.set_cons_zero, List.set_cons_succ, i64_w, i32_w]
              rfl
            refine pure_ (i := 14) (N := some 54) (v := ?_) (a' := ?_) #[true, false, true, false, true, false, false, true, false, false, true, false, false, false, true, false, false, false] rfl rfl (any_of HT_.out (by kernel_rfl)) (fun _ _ _ h => h) (Or.inl ⟨by rfl, ?_⟩) ?_ ?_
            rotate_left
            · intro w'
              go_simp
              with_reducible rfl
            rotate_left
            · simp only [Act.put, List.setIfInBounds_toArray, List.set_cons_zero, List.set_cons_succ, i64_w, i32_w]
              rfl
            refine take_ (i := 1) (N := some 41) (v := ?_) (a' := ?_) #[true, true, true, false, true, false, false, true, false, false, true, false, false, false, true, false, false, false] rfl rfl (take_ofW HT_.out HW_.out (by kernel_rfl)) (fun _ _ _ h => h) (Or.inl ⟨by rfl, ?_⟩) hHeld ?_ ?_
            rotate_left
            · rintro w' ⟨s0, s1, s2⟩
              go_simp
              with_reducible rfl
            rotate_left
            · simp only [Act.put, List.setIfInBounds_toArray, List.set_cons_zero, List.set_cons_succ, i64_w, i32_w]
              rfl
            refine take_ (i := 3) (N := some 43) (v := ?_) (a' := ?_) #[true, true, true, true, true, false, false, true, false, false, true, false, false, false, true, false, false, false] rfl rfl (take_ofW HT_.out HW_.out (by kernel_rfl)) (fun _ _ _ h => h) (Or.inl ⟨by rfl, ?_⟩) hHeld ?_ ?_
            rotate_left
            · rintro w' ⟨s0, s1, s2⟩
              go_simp
              with_reducible rfl
            rotate_left
            · simp only [Act.put, List.setIfInBounds_toArray, List.set_cons_zero, List.set_cons_succ, i64_w, i32_w]
              rfl
            refine take_ (i := 8) (N := some 48) (v := ?_) (a' := ?_) #[true, true, true, true, true, false, false, true, true, false, true, false, false, false, true, false, false, false] rfl rfl (take_ofW HT_.out HW_.out (by kernel_rfl)) (fun _ _ _ h => h) (Or.inl ⟨by rfl, ?_⟩) hHeld ?_ ?_
            rotate_left
            · rintro w' ⟨s0, s1, s2⟩
              go_simp
              with_reducible rfl
            rotate_left
            · simp only [Act.put, List.setIfInBounds_toArray, List.set_cons_zero, List.set_cons_succ, i64_w, i32_w]
              rfl
            refine join_ (σ := Value × Value × Value × Value) 5 #[true, true, true, true, true, true, true, true, true, true, true, true, false, false, true, false, false, false] (fun s_ => [(45, s_.1), (46, s_.2.1), (49, s_.2.2.1), (51, s_.2.2.2)]) (fun s_ w' => (w'.cell? ⟨gb40001, 0, none⟩ = some (.int .i64 a0_0) ∧ w'.cell? ⟨gb40001, 1, none⟩ = some (.slice (some ad40003) l0_1.length c0_1) ∧ w'.cell? ⟨gb40001, 2, none⟩ = some (.slice A0_2 l0_2.length c0_2)) ∧ (Kd.R (Kd.int .i64) 3 w' w.heap.size (fun k_ => some k_ ≠ (s_.2.2.1 : Value).ownBlock ∧ some k_ ≠ (s_.2.2.2 : Value).ownBlock) s_.1 t40004) ∧ (Kd.R (Kd.int .i64) 3 w' w.heap.size (fun k_ => some k_ ≠ (s_.1 : Value).ownBlock ∧ some k_ ≠ (s_.2.2.2 : Value).ownBlock) s_.2.2.1 y40010) ∧ (Kd.R (Kd.int .i64) 3 w' w.heap.size (fun k_ => some k_ ≠ (s_.1 : Value).ownBlock ∧ some k_ ≠ (s_.2.2.1 : Value).ownBlock) s_.2.2.2 y40013) ∧ (w'.heap[gb40001]? = some (.cells #[.int .i64 a0_0, .slice (some ad40003) l0_1.length c0_1, .slice A0_2 l0_2.length c0_2] 44 (0, 0))) ∧ (w'.heap[gb40002]? = some (.cells #[.int .i64 0, .slice none 0 0, .slice none 0 0] 44 (0, 0))) ∧ (Below w.heap.size w w')) ?_ ?_
            rotate_left
            · intro hJ5_6_9_11
              refine join_ (σ := Value × Value × Value) 6 #[true, true, true, true, true, true, true, true, true, true, true, false, false, false, true, false, false, false] (fun s_ => [(45, s_.1), (46, s_.2.1), (49, s_.2.2)]) (fun s_ w' => (w'.cell? ⟨gb40001, 0, none⟩ = some (.int .i64 a0_0) ∧ w'.cell? ⟨gb40001, 1, none⟩ = some (.slice (some ad40003) l0_1.length c0_1) ∧ w'.cell? ⟨gb40001, 2, none⟩ = some (.slice A0_2 l0_2.length c0_2)) ∧ (Kd.R (Kd.int .i64) 3 w' w.heap.size (fun k_ => some k_ ≠ (s_.2.2 : Value).ownBlock) s_.1 t40004) ∧ (Kd.R (Kd.int .i64) 3 w' w.heap.size (fun k_ => some k_ ≠ (s_.1 : Value).ownBlock) s_.2.2 y40010) ∧ (w'.heap[gb40001]? = some (.cells #[.int .i64 a0_0, .slice (some ad40003) l0_1.length c0_1, .slice A0_2 l0_2.length c0_2] 44 (0, 0))) ∧ (w'.heap[gb40002]? = some (.cells #[.int .i64 0, .slice none 0 0, .slice none 0 0] 44 (0, 0))) ∧ (Below w.heap.size w w')) ?_ ?_
              rotate_left
              · intro hJ5_6_9
                refine join_ (σ := Value × Value × Value) 6 #[true, true, true, true, true, true, true, true, true, false, true, true, false, false, true, false, false, false] (fun s_ => [(45, s_.1), (46, s_.2.1), (51, s_.2.2)]) (fun s_ w' => (w'.cell? ⟨gb40001, 0, none⟩ = some (.int .i64 a0_0) ∧ w'.cell? ⟨gb40001, 1, none⟩ = some (.slice (some ad40003) l0_1.length c0_1) ∧ w'.cell? ⟨gb40001, 2, none⟩ = some (.slice A0_2 l0_2.length c0_2)) ∧ (Kd.R (Kd.int .i64) 3 w' w.heap.size (fun k_ => some k_ ≠ (s_.2.1 : Value).ownBlock ∧ some k_ ≠ (s_.2.2 : Value).ownBlock) s_.1 t40004) ∧ (Kd.R (Kd.int .i64) 3 w' w.heap.size (fun k_ => some k_ ≠ (s_.1 : Value).ownBlock ∧ some k_ ≠ (s_.2.2 : Value).ownBlock) s_.2.1 y40007) ∧ (Kd.R (Kd.int .i64) 3 w' w.heap.size (fun k_ => some k_ ≠ (s_.1 : Value).ownBlock ∧ some k_ ≠ (s_.2.1 : Value).ownBlock) s_.2.2 y40013) ∧ (w'.heap[gb40001]? = some (.cells #[.int .i64 a0_0, .slice (some ad40003) l0_1.length c0_1, .slice A0_2 l0_2.length c0_2] 44 (0, 0))) ∧ (w'.heap[gb40002]? = some (.cells #[.int .i64 0, .slice none 0 0, .slice none 0 0] 44 (0, 0))) ∧ (Below w.heap.size w w')) ?_ ?_
                rotate_left
                · intro hJ5_6_11
                  refine join_ (σ := Value × Value) 7 #[true, true, true, true, true, true, true, true, true, false, true, false, false, false, true, false, false, false] (fun s_ => [(45, s_.1), (46, s_.2)]) (fun s_ w' => (w'.cell? ⟨gb40001, 0, none⟩ = some (.int .i64 a0_0) ∧ w'.cell? ⟨gb40001, 1, none⟩ = some (.slice (some ad40003) l0_1.length c0_1) ∧ w'.cell? ⟨gb40001, 2, none⟩ = some (.slice A0_2 l0_2.length c0_2)) ∧ (Kd.R (Kd.int .i64) 3 w' w.heap.size (fun k_ => some k_ ≠ (s_.2 : Value).ownBlock) s_.1 t40004) ∧ (Kd.R (Kd.int .i64) 3 w' w.heap.size (fun k_ => some k_ ≠ (s_.1 : Value).ownBlock) s_.2 y40007) ∧ (w'.heap[gb40001]? = some (.cells #[.int .i64 a0_0, .slice (some ad40003) l0_1.length c0_1, .slice A0_2 l0_2.length c0_2] 44 (0, 0))) ∧ (w'.heap[gb40002]? = some (.cells #[.int .i64 0, .slice none 0 0, .slice none 0 0] 44 (0, 0))) ∧ (Below w.heap.size w w')) ?_ ?_
                  rotate_left
                  · intro hJ5_6
                    refine join_ (σ := Value × Value) 7 #[true, true, true, true, true, true, false, true, true, false, true, true, false, false, true, false, false, false] (fun s_ => [(45, s_.1), (51, s_.2)]) (fun s_ w' => (w'.cell? ⟨gb40001, 0, none⟩ = some (.int .i64 a0_0) ∧ w'.cell? ⟨gb40001, 1, none⟩ = some (.slice (some ad40003) l0_1.length c0_1) ∧ w'.cell? ⟨gb40001, 2, none⟩ = some (.slice A0_2 l0_2.length c0_2)) ∧ (Kd.R (Kd.int .i64) 3 w' w.heap.size (fun k_ => some k_ ≠ (s_.2 : Value).ownBlock) s_.1 t40004) ∧ (Kd.R (Kd.int .i64) 3 w' w.heap.size (fun k_ => some k_ ≠ (s_.1 : Value).ownBlock) s_.2 y40013) ∧ (w'.heap[gb40001]? = some (.cells #[.int .i64 a0_0, .slice (some ad40003) l0_1.length c0_1, .slice A0_2 l0_2.length c0_2] 44 (0, 0))) ∧ (w'.heap[gb40002]? = some (.cells #[.int .i64 0, .slice none 0 0, .slice none 0 0] 44 (0, 0))) ∧ (Below w.heap.size w w')) ?_ ?_
                    rotate_left
                    · intro hJ5_11
                      refine join_ (σ := Value × Value) 7 #[true, true, true, true, true, false, true, true, true, false, true, true, false, false, true, false, false, false] (fun s_ => [(46, s_.1), (51, s_.2)]) (fun s_ w' => (w'.cell? ⟨gb40001, 0, none⟩ = some (.int .i64 a0_0) ∧ w'.cell? ⟨gb40001, 1, none⟩ = some (.slice (some ad40003) l0_1.length c0_1) ∧ w'.cell? ⟨gb40001, 2, none⟩ = some (.slice A0_2 l0_2.length c0_2)) ∧ (Kd.R (Kd.int .i64) 3 w' w.heap.size (fun k_ => some k_ ≠ (s_.2 : Value).ownBlock) s_.1 y40007) ∧ (Kd.R (Kd.int .i64) 3 w' w.heap.size (fun k_ => some k_ ≠ (s_.1 : Value).ownBlock) s_.2 y40013) ∧ (w'.heap[gb40001]? = some (.cells #[.int .i64 a0_0, .slice (some ad40003) l0_1.length c0_1, .slice A0_2 l0_2.length c0_2] 44 (0, 0))) ∧ (w'.heap[gb40002]? = some (.cells #[.int .i64 0, .slice none 0 0, .slice none 0 0] 44 (0, 0))) ∧ (Below w.heap.size w w')) ?_ ?_
                      rotate_left
                      · intro hJ6_11
                        refine join_ (σ := Value) 8 #[true, true, true, true, true, true, false, true, true, false, true, false, false, false, true, false, false, false] (fun s_ => [(45, s_)]) (fun s_ w' => (w'.cell? ⟨gb40001, 0, none⟩ = some (.int .i64 a0_0) ∧ w'.cell? ⟨gb40001, 1, none⟩ = some (.slice (some ad40003) l0_1.length c0_1) ∧ w'.cell? ⟨gb40001, 2, none⟩ = some (.slice A0_2 l0_2.length c0_2)) ∧ (Kd.R (Kd.int .i64) 3 w' w.heap.size (fun _ => True) s_ t40004) ∧ (w'.heap[gb40001]? = some (.cells #[.int .i64 a0_0, .slice (some ad40003) l0_1.length c0_1, .slice A0_2 l0_2.length c0_2] 44 (0, 0))) ∧ (w'.heap[gb40002]? = some (.cells #[.int .i64 0, .slice none 0 0, .slice none 0 0] 44 (0, 0))) ∧ (Below w.heap.size w w')) ?_ ?_
                        rotate_left
                        · intro hJ5
                          refine join_ (σ := Value) 8 #[true, true, true, true, true, false, true, true, true, false, true, false, false, false, true, false, false, false] (fun s_ => [(46, s_)]) (fun s_ w' => (w'.cell? ⟨gb40001, 0, none⟩ = some (.int .i64 a0_0) ∧ w'.cell? ⟨gb40001, 1, none⟩ = some (.slice (some ad40003) l0_1.length c0_1) ∧ w'.cell? ⟨gb40001, 2, none⟩ = some (.slice A0_2 l0_2.length c0_2)) ∧ (Kd.R (Kd.int .i64) 3 w' w.heap.size (fun _ => True) s_ y40007) ∧ (w'.heap[gb40001]? = some (.cells #[.int .i64 a0_0, .slice (some ad40003) l0_1.length c0_1, .slice A0_2 l0_2.length c0_2] 44 (0, 0))) ∧ (w'.heap[gb40002]? = some (.cells #[.int .i64 0, .slice none 0 0, .slice none 0 0] 44 (0, 0))) ∧ (Below w.heap.size w w')) ?_ ?_
                          rotate_left
                          · intro hJ6
                            refine join_ (σ := Value) 8 #[true, true, true, true, true, false, false, true, true, false, true, true, false, false, true, false, false, false] (fun s_ => [(51, s_)]) (fun s_ w' => (w'.cell? ⟨gb40001, 0, none⟩ = some (.int .i64 a0_0) ∧ w'.cell? ⟨gb40001, 1, none⟩ = some (.slice (some ad40003) l0_1.length c0_1) ∧ w'.cell? ⟨gb40001, 2, none⟩ = some (.slice A0_2 l0_2.length c0_2)) ∧ (Kd.R (Kd.int .i64) 3 w' w.heap.size (fun _ => True) s_ y40013) ∧ (w'.heap[gb40001]? = some (.cells #[.int .i64 a0_0, .slice (some ad40003) l0_1.length c0_1, .slice A0_2 l0_2.length c0_2] 44 (0, 0))) ∧ (w'.heap[gb40002]? = some (.cells #[.int .i64 0, .slice none 0 0, .slice none 0 0] 44 (0, 0))) ∧ (Below w.heap.size w w')) ?_ ?_
                            rotate_left
                            · intro hJ11
                              refine three_ (i := 5) (j := 6) (k := 11) (Ni := some 45) (Nj := some 46) (Nk := some 51) #[true, true, true, true, true, true, false, true, true, false, true, false, false, false, true, false, false, false] #[true, true, true, true, true, false, true, true, true, false, true, false, false, false, true, false, false, false] #[true, true, true, true, true, false, false, true, true, false, true, true, false, false, true, false, false, false] rfl rfl rfl rfl rfl rfl (three_of HT_.out (by kernel_rfl)) (by decide) (by decide) (by decide) (fun K hK => ?_) (fun K hK => ?_) (fun K hK => ?_)
                              · skip
                                refine goes_ Try.func74 (by kernel_rfl) rfl #[.slice (some ad40003) l0_1.length c0_1, .int .i64 a1] (by rfl) rfl rfl (by (try simp only [List.map_toArray, List.map_cons, List.map_nil]); first | done | rfl | (simp only [List.length_drop, List.length_take]; rfl)) ?_
                                with_reducible refine (customsref33_out.calls _ _ l0_1 a1 t40004 _ ?side1 ?side2 A22.out).mono ?_
                                (case side1 => repeat (first | exact (Kd.C_below HR0_1.out HB.out) | (with_reducible refine Kd.C_alloc ?_ _) | (with_reducible refine Kd.C_drewN ?_ _) | (with_reducible refine Kd.C_drew ?_)))
                                (case side2 => exact HC0_1.out)
                                rintro e w28 ⟨v40005, rfl, ho0, hb⟩
                                refine ⟨_, rfl, ?_⟩
                                have n0_ := Aside0.mk (Kd.R_lower ho0 (below_size (below_extB HB.out)))
                                have HO40006 := n0_
                                replace BK40001 := mvB BK40001 hb
                                replace BK40002 := mvB BK40002 hb
                                replace HB := mvH HB hb
                                clear n0_
                                (try clear hb)
                                (try clear hb2)
                                (try clear hk)
                                (try clear hi)
                                (try clear ho0)
                                refine hK.out _ _ ⟨(blk_cell BK40001.out 0).trans rfl, (blk_cell BK40001.out 1).trans rfl, (blk_cell BK40001.out 2).trans rfl⟩ (fun hHeld => ?_)
                                clear hK K
                                refine norm_ (a' := ?_) ?_ ?_
                                rotate_left
                                · show Act.put _ (some 45) _ = _
                                  simp only [Act.put, List.setIfInBounds_toArray, List.set_cons_zero, List.set_cons_succ, i64_w, i32_w]
                                  rfl
                                exact norm_ (by first | (simp only [putAll, Act.put, List.setIfInBounds_toArray, List.set_cons_zero, List.set_cons_succ]; done) | (simp only [putAll, Act.put, List.setIfInBounds_toArray, List.set_cons_zero, List.set_cons_succ]; rfl)) (hJ5 (v40005) _ ⟨hHeld, (Kd.R_ext HO40006.out), (blk_ext BK40001.out), (blk_ext BK40002.out), (below_extB HB.out)⟩)
                              · skip
                                refine Kd.R_lit_step (Kd.int .i64) _ 3 ?hg (N := 46) ?hd (xs := ([] : List Int)) (inner := []) (ok := fun _ => True) (okp := fun _ => True) ?hr ?hp (fun _ hk => hk) trivial (Below.refl _ _) (Nat.le_refl _) (by simp) ?_; (case hd => rfl); (case hg => rfl); (case hr => first | (go_simp; done) | (go_simp; rfl)); (case hp => exact (Reps.none _ _))
                                intro v40008 w28 ho29 hb hg_ hnew_
                                clear hg_ hnew_
                                (first | rw [← Ny40007.out] at ho29 | (simp only [Int.reduceToNat] at ho29; rw [← Ny40007.out] at ho29))
                                have n0_ := Aside0.mk (Kd.R_lower ho29 (below_size (below_extB HB.out)))
                                have HO40009 := n0_
                                replace BK40001 := mvB BK40001 hb
                                replace BK40002 := mvB BK40002 hb
                                replace HB := mvH HB hb
                                clear n0_
                                clear hb ho29
                                refine hK.out _ _ ⟨(blk_cell BK40001.out 0).trans rfl, (blk_cell BK40001.out 1).trans rfl, (blk_cell BK40001.out 2).trans rfl⟩ (fun hHeld => ?_)
                                clear hK K
                                refine norm_ (a' := ?_) ?_ ?_
                                rotate_left
                                · show Act.put _ (some 46) _ = _
                                  simp only [Act.put, List.setIfInBounds_toArray, List.set_cons_zero, List.set_cons_succ, i64_w, i32_w]
                                  rfl
                                exact norm_ (by first | (simp only [putAll, Act.put, List.setIfInBounds_toArray, List.set_cons_zero, List.set_cons_succ]; done) | (simp only [putAll, Act.put, List.setIfInBounds_toArray, List.set_cons_zero, List.set_cons_succ]; rfl)) (hJ6 (v40008) _ ⟨hHeld, (Kd.R_ext HO40009.out), (blk_ext BK40001.out), (blk_ext BK40002.out), (below_extB HB.out)⟩)
                              · skip
                                refine Kd.R_lit_step (Kd.int .i64) _ 3 ?hg (N := 51) ?hd (xs := ([rd l0_1 a1] : List Int)) (inner := [.int .i64 (rd l0_1 a1)]) (ok := fun _ => True) (okp := fun _ => True) ?hr ?hp (fun _ hk => hk) trivial (Below.refl _ _) (Nat.le_refl _) (by simp) ?_; (case hd => rfl); (case hg => rfl); (case hr => first | (go_simp; done) | (go_simp; rfl)); (case hp => exact (Reps.one (show Kd.M (Kd.int .i64) _ _ _ (rd l0_1 a1) [.int .i64 (rd l0_1 a1)] from rfl) (Reps.none _ _)))
                                intro v40014 w28 ho29 hb hg_ hnew_
                                clear hg_ hnew_
                                (first | rw [← Ny40013.out] at ho29 | (simp only [Int.reduceToNat] at ho29; rw [← Ny40013.out] at ho29))
                                have n0_ := Aside0.mk (Kd.R_lower ho29 (below_size (below_extB HB.out)))
                                have HO40015 := n0_
                                replace BK40001 := mvB BK40001 hb
                                replace BK40002 := mvB BK40002 hb
                                replace HB := mvH HB hb
                                clear n0_
                                clear hb ho29
                                refine hK.out _ _ ⟨(blk_cell BK40001.out 0).trans rfl, (blk_cell BK40001.out 1).trans rfl, (blk_cell BK40001.out 2).trans rfl⟩ (fun hHeld => ?_)
                                clear hK K
                                refine norm_ (a' := ?_) ?_ ?_
                                rotate_left
                                · show Act.put _ (some 51) _ = _
                                  simp only [Act.put, List.setIfInBounds_toArray, List.set_cons_zero, List.set_cons_succ, i64_w, i32_w]
                                  rfl
                                exact norm_ (by first | (simp only [putAll, Act.put, List.setIfInBounds_toArray, List.set_cons_zero, List.set_cons_succ]; done) | (simp only [putAll, Act.put, List.setIfInBounds_toArray, List.set_cons_zero, List.set_cons_succ]; rfl)) (hJ11 (v40014) _ ⟨hHeld, (Kd.R_ext HO40015.out), (blk_ext BK40001.out), (blk_ext BK40002.out), (below_extB HB.out)⟩)
                            · skip
                              rintro v40014 w30 ⟨hS_, h0_, h1_, h2_, h3_⟩
                              have n0_ : Aside0 (Kd.R (Kd.int .i64) 3 w30 w.heap.size (fun _ => True) v40014 y40013) := ⟨h0_⟩
                              have n1_ : Aside0 (w30.heap[gb40001]? = some (.cells #[.int .i64 a0_0, .slice (some ad40003) l0_1.length c0_1, .slice A0_2 l0_2.length c0_2] 44 (0, 0))) := ⟨h1_⟩
                              have n2_ : Aside0 (w30.heap[gb40002]? = some (.cells #[.int .i64 0, .slice none 0 0, .slice none 0 0] 44 (0, 0))) := ⟨h2_⟩
                              have n3_ : Aside0 (Below w.heap.size w w30) := ⟨h3_⟩
                              clear BK40001
                              clear BK40002
                              clear HB
                              clear h0_ h1_ h2_ h3_
                              have HO40015 := n0_
                              have BK40001 := n1_
                              have BK40002 := n2_
                              have HB := n3_
                              clear n0_ n1_ n2_ n3_
                              have hHeld : w30.cell? ⟨gb40001, 0, none⟩ = some (.int .i64 a0_0) ∧ w30.cell? ⟨gb40001, 1, none⟩ = some (.slice (some ad40003) l0_1.length c0_1) ∧ w30.cell? ⟨gb40001, 2, none⟩ = some (.slice A0_2 l0_2.length c0_2) := hS_
                              refine norm_ (a' := ?_) ?_ ?_
                              rotate_left
                              · simp only [putAll, Act.put, List.setIfInBounds_toArray, List.set_cons_zero, List.set_cons_succ]
                                rfl
                              refine two_ (i := 5) (j := 6) (Ni := some 45) (Nj := some 46) #[true, true, true, true, true, true, false, true, true, false, true, true, false, false, true, false, false, false] #[true, true, true, true, true, false, true, true, true, false, true, true, false, false, true, false, false, false] rfl rfl rfl rfl (two_of HT_.out (by kernel_rfl)) (by decide) (by decide) (fun K hK => ?_) (fun K hK => ?_)
                              · skip
                                refine goes_ Try.func74 (by kernel_rfl) rfl #[.slice (some ad40003) l0_1.length c0_1, .int .i64 a1] (by rfl) rfl rfl (by (try simp only [List.map_toArray, List.map_cons, List.map_nil]); first | done | rfl | (simp only [List.length_drop, List.length_take]; rfl)) ?_
                                with_reducible refine (customsref33_out.calls _ _ l0_1 a1 t40004 _ ?side1 ?side2 A22.out).mono ?_
                                (case side1 => repeat (first | exact (Kd.C_below HR0_1.out HB.out) | (with_reducible refine Kd.C_alloc ?_ _) | (with_reducible refine Kd.C_drewN ?_ _) | (with_reducible refine Kd.C_drew ?_)))
                                (case side2 => exact HC0_1.out)
                                rintro e w31 ⟨v40005, rfl, ho0, hb⟩
                                refine ⟨_, rfl, ?_⟩
                                have n1_ := Aside0.mk (Kd.R_lower (Kd.R_new' ho0 (Kd.R_lt (Kd.R_ext HO40015.out))) (below_size (below_extB HB.out)))
                                have HO40006 := n1_
                                replace HO40015 := apR HO40015 hb (Kd.R_base ho0)
                                replace BK40001 := mvB BK40001 hb
                                replace BK40002 := mvB BK40002 hb
                                replace HB := mvH HB hb
                                clear n1_
                                (try clear hb)
                                (try clear hb2)
                                (try clear hk)
                                (try clear hi)
                                (try clear ho0)
                                refine hK.out _ _ ⟨(blk_cell BK40001.out 0).trans rfl, (blk_cell BK40001.out 1).trans rfl, (blk_cell BK40001.out 2).trans rfl⟩ (fun hHeld => ?_)
                                clear hK K
                                refine norm_ (a' := ?_) ?_ ?_
                                rotate_left
                                · show Act.put _ (some 45) _ = _
                                  simp only [Act.put, List.setIfInBounds_toArray, List.set_cons_zero, List.set_cons_succ, i64_w, i32_w]
                                  rfl
                                exact norm_ (by first | (simp only [putAll, Act.put, List.setIfInBounds_toArray, List.set_cons_zero, List.set_cons_succ]; done) | (simp only [putAll, Act.put, List.setIfInBounds_toArray, List.set_cons_zero, List.set_cons_succ]; rfl)) (hJ5_11 (v40005, v40014) _ ⟨hHeld, (Kd.R_ext (Kd.R_mono HO40006.out (fun _ hk => hk.2))), (Kd.R_ext (Kd.R_mono HO40015.out (fun _ hk => hk.2))), (blk_ext BK40001.out), (blk_ext BK40002.out), (below_extB HB.out)⟩)
                              · skip
                                refine Kd.R_lit_step (Kd.int .i64) _ 3 ?hg (N := 46) ?hd (xs := ([] : List Int)) (inner := []) (ok := fun _ => True) (okp := fun _ => True) ?hr ?hp (fun _ hk => hk) trivial (Below.refl _ _) (Nat.le_refl _) (by simp) ?_; (case hd => rfl); (case hg => rfl); (case hr => first | (go_simp; done) | (go_simp; rfl)); (case hp => exact (Reps.none _ _))
                                intro v40008 w31 ho32 hb hg_ hnew_
                                clear hg_ hnew_
                                (first | rw [← Ny40007.out] at ho32 | (simp only [Int.reduceToNat] at ho32; rw [← Ny40007.out] at ho32))
                                have n1_ := Aside0.mk (Kd.R_lower (Kd.R_new' ho32 (Kd.R_lt (Kd.R_ext HO40015.out))) (below_size (below_extB HB.out)))
                                have HO40009 := n1_
                                replace HO40015 := apR HO40015 hb (Kd.R_base ho32)
                                replace BK40001 := mvB BK40001 hb
                                replace BK40002 := mvB BK40002 hb
                                replace HB := mvH HB hb
                                clear n1_
                                clear hb ho32
                                refine hK.out _ _ ⟨(blk_cell BK40001.out 0).trans rfl, (blk_cell BK40001.out 1).trans rfl, (blk_cell BK40001.out 2).trans rfl⟩ (fun hHeld => ?_)
                                clear hK K
                                refine norm_ (a' := ?_) ?_ ?_
                                rotate_left
                                · show Act.put _ (some 46) _ = _
                                  simp only [Act.put, List.setIfInBounds_toArray, List.set_cons_zero, List.set_cons_succ, i64_w, i32_w]
                                  rfl
                                exact norm_ (by first | (simp only [putAll, Act.put, List.setIfInBounds_toArray, List.set_cons_zero, List.set_cons_succ]; done) | (simp only [putAll, Act.put, List.setIfInBounds_toArray, List.set_cons_zero, List.set_cons_succ]; rfl)) (hJ6_11 (v40008, v40014) _ ⟨hHeld, (Kd.R_ext (Kd.R_mono HO40009.out (fun _ hk => hk.2))), (Kd.R_ext (Kd.R_mono HO40015.out (fun _ hk => hk.2))), (blk_ext BK40001.out), (blk_ext BK40002.out), (below_extB HB.out)⟩)
                          · skip
                            rintro v40008 w30 ⟨hS_, h0_, h1_, h2_, h3_⟩
                            have n0_ : Aside0 (Kd.R (Kd.int .i64) 3 w30 w.heap.size (fun _ => True) v40008 y40007) := ⟨h0_⟩
                            have n1_ : Aside0 (w30.heap[gb40001]? = some (.cells #[.int .i64 a0_0, .slice (some ad40003) l0_1.length c0_1, .slice A0_2 l0_2.length c0_2] 44 (0, 0))) := ⟨h1_⟩
                            have n2_ : Aside0 (w30.heap[gb40002]? = some (.cells #[.int .i64 0, .slice none 0 0, .slice none 0 0] 44 (0, 0))) := ⟨h2_⟩
                            have n3_ : Aside0 (Below w.heap.size w w30) := ⟨h3_⟩
                            clear BK40001
                            clear BK40002
                            clear HB
                            clear h0_ h1_ h2_ h3_
                            have HO40009 := n0_
                            have BK40001 := n1_
                            have BK40002 := n2_
                            have HB := n3_
                            clear n0_ n1_ n2_ n3_
                            have hHeld : w30.cell? ⟨gb40001, 0, none⟩ = some (.int .i64 a0_0) ∧ w30.cell? ⟨gb40001, 1, none⟩ = some (.slice (some ad40003) l0_1.length c0_1) ∧ w30.cell? ⟨gb40001, 2, none⟩ = some (.slice A0_2 l0_2.length c0_2) := hS_
                            refine norm_ (a' := ?_) ?_ ?_
                            rotate_left
                            · simp only [putAll, Act.put, List.setIfInBounds_toArray, List.set_cons_zero, List.set_cons_succ]
                              rfl
                            refine two_ (i := 5) (j := 11) (Ni := some 45) (Nj := some 51) #[true, true, true, true, true, true, true, true, true, false, true, false, false, false, true, false, false, false] #[true, true, true, true, true, false, true, true, true, false, true, true, false, false, true, false, false, false] rfl rfl rfl rfl (two_of HT_.out (by kernel_rfl)) (by decide) (by decide) (fun K hK => ?_) (fun K hK => ?_)
                            · skip
                              refine goes_ Try.func74 (by kernel_rfl) rfl #[.slice (some ad40003) l0_1.length c0_1, .int .i64 a1] (by rfl) rfl rfl (by (try simp only [List.map_toArray, List.map_cons, List.map_nil]); first | done | rfl | (simp only [List.length_drop, List.length_take]; rfl)) ?_
                              with_reducible refine (customsref33_out.calls _ _ l0_1 a1 t40004 _ ?side1 ?side2 A22.out).mono ?_
                              (case side1 => repeat (first | exact (Kd.C_below HR0_1.out HB.out) | (with_reducible refine Kd.C_alloc ?_ _) | (with_reducible refine Kd.C_drewN ?_ _) | (with_reducible refine Kd.C_drew ?_)))
                              (case side2 => exact HC0_1.out)
                              rintro e w31 ⟨v40005, rfl, ho0, hb⟩
                              refine ⟨_, rfl, ?_⟩
                              have n1_ := Aside0.mk (Kd.R_lower (Kd.R_new' ho0 (Kd.R_lt (Kd.R_ext HO40009.out))) (below_size (below_extB HB.out)))
                              have HO40006 := n1_
                              replace HO40009 := apR HO40009 hb (Kd.R_base ho0)
                              replace BK40001 := mvB BK40001 hb
                              replace BK40002 := mvB BK40002 hb
                              replace HB := mvH HB hb
                              clear n1_
                              (try clear hb)
                              (try clear hb2)
                              (try clear hk)
                              (try clear hi)
                              (try clear ho0)
                              refine hK.out _ _ ⟨(blk_cell BK40001.out 0).trans rfl, (blk_cell BK40001.out 1).trans rfl, (blk_cell BK40001.out 2).trans rfl⟩ (fun hHeld => ?_)
                              clear hK K
                              refine norm_ (a' := ?_) ?_ ?_
                              rotate_left
                              · show Act.put _ (some 45) _ = _
                                simp only [Act.put, List.setIfInBounds_toArray, List.set_cons_zero, List.set_cons_succ, i64_w, i32_w]
                                rfl
                              exact norm_ (by first | (simp only [putAll, Act.put, List.setIfInBounds_toArray, List.set_cons_zero, List.set_cons_succ]; done) | (simp only [putAll, Act.put, List.setIfInBounds_toArray, List.set_cons_zero, List.set_cons_succ]; rfl)) (hJ5_6 (v40005, v40008) _ ⟨hHeld, (Kd.R_ext (Kd.R_mono HO40006.out (fun _ hk => hk.2))), (Kd.R_ext (Kd.R_mono HO40009.out (fun _ hk => hk.2))), (blk_ext BK40001.out), (blk_ext BK40002.out), (below_extB HB.out)⟩)
                            · skip
                              refine Kd.R_lit_step (Kd.int .i64) _ 3 ?hg (N := 51) ?hd (xs := ([rd l0_1 a1] : List Int)) (inner := [.int .i64 (rd l0_1 a1)]) (ok := fun _ => True) (okp := fun _ => True) ?hr ?hp (fun _ hk => hk) trivial (Below.refl _ _) (Nat.le_refl _) (by simp) ?_; (case hd => rfl); (case hg => rfl); (case hr => first | (go_simp; done) | (go_simp; rfl)); (case hp => exact (Reps.one (show Kd.M (Kd.int .i64) _ _ _ (rd l0_1 a1) [.int .i64 (rd l0_1 a1)] from rfl) (Reps.none _ _)))
                              intro v40014 w31 ho32 hb hg_ hnew_
                              clear hg_ hnew_
                              (first | rw [← Ny40013.out] at ho32 | (simp only [Int.reduceToNat] at ho32; rw [← Ny40013.out] at ho32))
                              have n1_ := Aside0.mk (Kd.R_lower (Kd.R_new' ho32 (Kd.R_lt (Kd.R_ext HO40009.out))) (below_size (below_extB HB.out)))
                              have HO40015 := n1_
                              replace HO40009 := apR HO40009 hb (Kd.R_base ho32)
                              replace BK40001 := mvB BK40001 hb
                              replace BK40002 := mvB BK40002 hb
                              replace HB := mvH HB hb
                              clear n1_
                              clear hb ho32
                              refine hK.out _ _ ⟨(blk_cell BK40001.out 0).trans rfl, (blk_cell BK40001.out 1).trans rfl, (blk_cell BK40001.out 2).trans rfl⟩ (fun hHeld => ?_)
                              clear hK K
                              refine norm_ (a' := ?_) ?_ ?_
                              rotate_left
                              · show Act.put _ (some 51) _ = _
                                simp only [Act.put, List.setIfInBounds_toArray, List.set_cons_zero, List.set_cons_succ, i64_w, i32_w]
                                rfl
                              exact norm_ (by first | (simp only [putAll, Act.put, List.setIfInBounds_toArray, List.set_cons_zero, List.set_cons_succ]; done) | (simp only [putAll, Act.put, List.setIfInBounds_toArray, List.set_cons_zero, List.set_cons_succ]; rfl)) (hJ6_11 (v40008, v40014) _ ⟨hHeld, (Kd.R_ext (Kd.R_mono HO40009.out (fun _ hk => hk.2))), (Kd.R_ext (Kd.R_mono HO40015.out (fun _ hk => hk.2))), (blk_ext BK40001.out), (blk_ext BK40002.out), (below_extB HB.out)⟩)
                        · skip
                          rintro v40005 w29 ⟨hS_, h0_, h1_, h2_, h3_⟩
                          have n0_ : Aside0 (Kd.R (Kd.int .i64) 3 w29 w.heap.size (fun _ => True) v40005 t40004) := ⟨h0_⟩
                          have n1_ : Aside0 (w29.heap[gb40001]? = some (.cells #[.int .i64 a0_0, .slice (some ad40003) l0_1.length c0_1, .slice A0_2 l0_2.length c0_2] 44 (0, 0))) := ⟨h1_⟩
                          have n2_ : Aside0 (w29.heap[gb40002]? = some (.cells #[.int .i64 0, .slice none 0 0, .slice none 0 0] 44 (0, 0))) := ⟨h2_⟩
                          have n3_ : Aside0 (Below w.heap.size w w29) := ⟨h3_⟩
                          clear BK40001
                          clear BK40002
                          clear HB
                          clear h0_ h1_ h2_ h3_
                          have HO40006 := n0_
                          have BK40001 := n1_
                          have BK40002 := n2_
                          have HB := n3_
                          clear n0_ n1_ n2_ n3_
                          have hHeld : w29.cell? ⟨gb40001, 0, none⟩ = some (.int .i64 a0_0) ∧ w29.cell? ⟨gb40001, 1, none⟩ = some (.slice (some ad40003) l0_1.length c0_1) ∧ w29.cell? ⟨gb40001, 2, none⟩ = some (.slice A0_2 l0_2.length c0_2) := hS_
                          refine norm_ (a' := ?_) ?_ ?_
                          rotate_left
                          · simp only [putAll, Act.put, List.setIfInBounds_toArray, List.set_cons_zero, List.set_cons_succ]
                            rfl
                          refine two_ (i := 6) (j := 11) (Ni := some 46) (Nj := some 51) #[true, true, true, true, true, true, true, true, true, false, true, false, false, false, true, false, false, false] #[true, true, true, true, true, true, false, true, true, false, true, true, false, false, true, false, false, false] rfl rfl rfl rfl (two_of HT_.out (by kernel_rfl)) (by decide) (by decide) (fun K hK => ?_) (fun K hK => ?_)
                          · skip
                            refine Kd.R_lit_step (Kd.int .i64) _ 3 ?hg (N := 46) ?hd (xs := ([] : List Int)) (inner := []) (ok := fun _ => True) (okp := fun _ => True) ?hr ?hp (fun _ hk => hk) trivial (Below.refl _ _) (Nat.le_refl _) (by simp) ?_; (case hd => rfl); (case hg => rfl); (case hr => first | (go_simp; done) | (go_simp; rfl)); (case hp => exact (Reps.none _ _))
                            intro v40008 w30 ho31 hb hg_ hnew_
                            clear hg_ hnew_
                            (first | rw [← Ny40007.out] at ho31 | (simp only [Int.reduceToNat] at ho31; rw [← Ny40007.out] at ho31))
                            have n1_ := Aside0.mk (Kd.R_lower (Kd.R_new' ho31 (Kd.R_lt (Kd.R_ext HO40006.out))) (below_size (below_extB HB.out)))
                            have HO40009 := n1_
                            replace HO40006 := apR HO40006 hb (Kd.R_base ho31)
                            replace BK40001 := mvB BK40001 hb
                            replace BK40002 := mvB BK40002 hb
                            replace HB := mvH HB hb
                            clear n1_
                            clear hb ho31
                            refine hK.out _ _ ⟨(blk_cell BK40001.out 0).trans rfl, (blk_cell BK40001.out 1).trans rfl, (blk_cell BK40001.out 2).trans rfl⟩ (fun hHeld => ?_)
                            clear hK K
                            refine norm_ (a' := ?_) ?_ ?_
                            rotate_left
                            · show Act.put _ (some 46) _ = _
                              simp only [Act.put, List.setIfInBounds_toArray, List.set_cons_zero, List.set_cons_succ, i64_w, i32_w]
                              rfl
                            exact norm_ (by first | (simp only [putAll, Act.put, List.setIfInBounds_toArray, List.set_cons_zero, List.set_cons_succ]; done) | (simp only [putAll, Act.put, List.setIfInBounds_toArray, List.set_cons_zero, List.set_cons_succ]; rfl)) (hJ5_6 (v40005, v40008) _ ⟨hHeld, (Kd.R_ext (Kd.R_mono HO40006.out (fun _ hk => hk.2))), (Kd.R_ext (Kd.R_mono HO40009.out (fun _ hk => hk.2))), (blk_ext BK40001.out), (blk_ext BK40002.out), (below_extB HB.out)⟩)
                          · skip
                            refine Kd.R_lit_step (Kd.int .i64) _ 3 ?hg (N := 51) ?hd (xs := ([rd l0_1 a1] : List Int)) (inner := [.int .i64 (rd l0_1 a1)]) (ok := fun _ => True) (okp := fun _ => True) ?hr ?hp (fun _ hk => hk) trivial (Below.refl _ _) (Nat.le_refl _) (by simp) ?_; (case hd => rfl); (case hg => rfl); (case hr => first | (go_simp; done) | (go_simp; rfl)); (case hp => exact (Reps.one (show Kd.M (Kd.int .i64) _ _ _ (rd l0_1 a1) [.int .i64 (rd l0_1 a1)] from rfl) (Reps.none _ _)))
                            intro v40014 w30 ho31 hb hg_ hnew_
                            clear hg_ hnew_
                            (first | rw [← Ny40013.out] at ho31 | (simp only [Int.reduceToNat] at ho31; rw [← Ny40013.out] at ho31))
                            have n1_ := Aside0.mk (Kd.R_lower (Kd.R_new' ho31 (Kd.R_lt (Kd.R_ext HO40006.out))) (below_size (below_extB HB.out)))
                            have HO40015 := n1_
                            replace HO40006 := apR HO40006 hb (Kd.R_base ho31)
                            replace BK40001 := mvB BK40001 hb
                            replace BK40002 := mvB BK40002 hb
                            replace HB := mvH HB hb
                            clear n1_
                            clear hb ho31
                            refine hK.out _ _ ⟨(blk_cell BK40001.out 0).trans rfl, (blk_cell BK40001.out 1).trans rfl, (blk_cell BK40001.out 2).trans rfl⟩ (fun hHeld => ?_)
                            clear hK K
                            refine norm_ (a' := ?_) ?_ ?_
                            rotate_left
                            · show Act.put _ (some 51) _ = _
                              simp only [Act.put, List.setIfInBounds_toArray, List.set_cons_zero, List.set_cons_succ, i64_w, i32_w]
                              rfl
                            exact norm_ (by first | (simp only [putAll, Act.put, List.setIfInBounds_toArray, List.set_cons_zero, List.set_cons_succ]; done) | (simp only [putAll, Act.put, List.setIfInBounds_toArray, List.set_cons_zero, List.set_cons_succ]; rfl)) (hJ5_11 (v40005, v40014) _ ⟨hHeld, (Kd.R_ext (Kd.R_mono HO40006.out (fun _ hk => hk.2))), (Kd.R_ext (Kd.R_mono HO40015.out (fun _ hk => hk.2))), (blk_ext BK40001.out), (blk_ext BK40002.out), (below_extB HB.out)⟩)
                      · skip
                        rintro ⟨v40008, v40014⟩ w32 ⟨hS_, h0_, h1_, h2_, h3_, h4_⟩
                        have n0_ : Aside0 (Kd.R (Kd.int .i64) 3 w32 w.heap.size (fun k_ => some k_ ≠ (v40014 : Value).ownBlock) v40008 y40007) := ⟨h0_⟩
                        have n1_ : Aside0 (Kd.R (Kd.int .i64) 3 w32 w.heap.size (fun k_ => some k_ ≠ (v40008 : Value).ownBlock) v40014 y40013) := ⟨h1_⟩
                        have n2_ : Aside0 (w32.heap[gb40001]? = some (.cells #[.int .i64 a0_0, .slice (some ad40003) l0_1.length c0_1, .slice A0_2 l0_2.length c0_2] 44 (0, 0))) := ⟨h2_⟩
                        have n3_ : Aside0 (w32.heap[gb40002]? = some (.cells #[.int .i64 0, .slice none 0 0, .slice none 0 0] 44 (0, 0))) := ⟨h3_⟩
                        have n4_ : Aside0 (Below w.heap.size w w32) := ⟨h4_⟩
                        clear BK40001
                        clear BK40002
                        clear HB
                        clear h0_ h1_ h2_ h3_ h4_
                        have HO40009 := n0_
                        have HO40015 := n1_
                        have BK40001 := n2_
                        have BK40002 := n3_
                        have HB := n4_
                        clear n0_ n1_ n2_ n3_ n4_
                        have hHeld : w32.cell? ⟨gb40001, 0, none⟩ = some (.int .i64 a0_0) ∧ w32.cell? ⟨gb40001, 1, none⟩ = some (.slice (some ad40003) l0_1.length c0_1) ∧ w32.cell? ⟨gb40001, 2, none⟩ = some (.slice A0_2 l0_2.length c0_2) := hS_
                        refine norm_ (a' := ?_) ?_ ?_
                        rotate_left
                        · simp only [putAll, Act.put, List.setIfInBounds_toArray, List.set_cons_zero, List.set_cons_succ]
                          rfl
                        refine one_ (i := 5) (N := some 45) #[true, true, true, true, true, true, true, true, true, false, true, true, false, false, true, false, false, false] rfl rfl (one_of HT_.out (by kernel_rfl)) (by decide) (fun K hK => ?_)
                        refine goes_ Try.func74 (by kernel_rfl) rfl #[.slice (some ad40003) l0_1.length c0_1, .int .i64 a1] (by rfl) rfl rfl (by (try simp only [List.map_toArray, List.map_cons, List.map_nil]); first | done | rfl | (simp only [List.length_drop, List.length_take]; rfl)) ?_
                        with_reducible refine (customsref33_out.calls _ _ l0_1 a1 t40004 _ ?side1 ?side2 A22.out).mono ?_
                        (case side1 => repeat (first | exact (Kd.C_below HR0_1.out HB.out) | (with_reducible refine Kd.C_alloc ?_ _) | (with_reducible refine Kd.C_drewN ?_ _) | (with_reducible refine Kd.C_drew ?_)))
                        (case side2 => exact HC0_1.out)
                        rintro e w33 ⟨v40005, rfl, ho0, hb⟩
                        refine ⟨_, rfl, ?_⟩
                        have n2_ := Aside0.mk (Kd.R_lower (Kd.R_new' (Kd.R_new' ho0 (Kd.R_lt (Kd.R_ext HO40009.out))) (Kd.R_lt (Kd.R_ext HO40015.out))) (below_size (below_extB HB.out)))
                        have HO40006 := n2_
                        replace HO40009 := apR HO40009 hb (Kd.R_base ho0)
                        replace HO40015 := apR HO40015 hb (Kd.R_base ho0)
                        replace BK40001 := mvB BK40001 hb
                        replace BK40002 := mvB BK40002 hb
                        replace HB := mvH HB hb
                        clear n2_
                        (try clear hb)
                        (try clear hb2)
                        (try clear hk)
                        (try clear hi)
                        (try clear ho0)
                        refine hK.out _ _ ⟨(blk_cell BK40001.out 0).trans rfl, (blk_cell BK40001.out 1).trans rfl, (blk_cell BK40001.out 2).trans rfl⟩ (fun hHeld => ?_)
                        clear hK K
                        refine norm_ (a' := ?_) ?_ ?_
                        rotate_left
                        · show Act.put _ (some 45) _ = _
                          simp only [Act.put, List.setIfInBounds_toArray, List.set_cons_zero, List.set_cons_succ, i64_w, i32_w]
                          rfl
                        exact norm_ (by first | (simp only [putAll, Act.put, List.setIfInBounds_toArray, List.set_cons_zero, List.set_cons_succ]; done) | (simp only [putAll, Act.put, List.setIfInBounds_toArray, List.set_cons_zero, List.set_cons_succ]; rfl)) (hJ5_6_11 (v40005, v40008, v40014) _ ⟨hHeld, (Kd.R_ext (Kd.R_mono HO40006.out (fun _ hk => ⟨hk.1.2, hk.2⟩))), (Kd.R_ext (Kd.R_mono HO40009.out (fun _ hk => ⟨hk.2, hk.1⟩))), (Kd.R_ext (Kd.R_mono HO40015.out (fun _ hk => ⟨hk.2, hk.1⟩))), (blk_ext BK40001.out), (blk_ext BK40002.out), (below_extB HB.out)⟩)
                    · skip
                      rintro ⟨v40005, v40014⟩ w31 ⟨hS_, h0_, h1_, h2_, h3_, h4_⟩
                      have n0_ : Aside0 (Kd.R (Kd.int .i64) 3 w31 w.heap.size (fun k_ => some k_ ≠ (v40014 : Value).ownBlock) v40005 t40004) := ⟨h0_⟩
                      have n1_ : Aside0 (Kd.R (Kd.int .i64) 3 w31 w.heap.size (fun k_ => some k_ ≠ (v40005 : Value).ownBlock) v40014 y40013) := ⟨h1_⟩
                      have n2_ : Aside0 (w31.heap[gb40001]? = some (.cells #[.int .i64 a0_0, .slice (some ad40003) l0_1.length c0_1, .slice A0_2 l0_2.length c0_2] 44 (0, 0))) := ⟨h2_⟩
                      have n3_ : Aside0 (w31.heap[gb40002]? = some (.cells #[.int .i64 0, .slice none 0 0, .slice none 0 0] 44 (0, 0))) := ⟨h3_⟩
                      have n4_ : Aside0 (Below w.heap.size w w31) := ⟨h4_⟩
                      clear BK40001
                      clear BK40002
                      clear HB
                      clear h0_ h1_ h2_ h3_ h4_
                      have HO40006 := n0_
                      have HO40015 := n1_
                      have BK40001 := n2_
                      have BK40002 := n3_
                      have HB := n4_
                      clear n0_ n1_ n2_ n3_ n4_
                      have hHeld : w31.cell? ⟨gb40001, 0, none⟩ = some (.int .i64 a0_0) ∧ w31.cell? ⟨gb40001, 1, none⟩ = some (.slice (some ad40003) l0_1.length c0_1) ∧ w31.cell? ⟨gb40001, 2, none⟩ = some (.slice A0_2 l0_2.length c0_2) := hS_
                      refine norm_ (a' := ?_) ?_ ?_
                      rotate_left
                      · simp only [putAll, Act.put, List.setIfInBounds_toArray, List.set_cons_zero, List.set_cons_succ]
                        rfl
                      refine one_ (i := 6) (N := some 46) #[true, true, true, true, true, true, true, true, true, false, true, true, false, false, true, false, false, false] rfl rfl (one_of HT_.out (by kernel_rfl)) (by decide) (fun K hK => ?_)
                      refine Kd.R_lit_step (Kd.int .i64) _ 3 ?hg (N := 46) ?hd (xs := ([] : List Int)) (inner := []) (ok := fun _ => True) (okp := fun _ => True) ?hr ?hp (fun _ hk => hk) trivial (Below.refl _ _) (Nat.le_refl _) (by simp) ?_; (case hd => rfl); (case hg => rfl); (case hr => first | (go_simp; done) | (go_simp; rfl)); (case hp => exact (Reps.none _ _))
                      intro v40008 w32 ho33 hb hg_ hnew_
                      clear hg_ hnew_
                      (first | rw [← Ny40007.out] at ho33 | (simp only [Int.reduceToNat] at ho33; rw [← Ny40007.out] at ho33))
                      have n2_ := Aside0.mk (Kd.R_lower (Kd.R_new' (Kd.R_new' ho33 (Kd.R_lt (Kd.R_ext HO40006.out))) (Kd.R_lt (Kd.R_ext HO40015.out))) (below_size (below_extB HB.out)))
                      have HO40009 := n2_
                      replace HO40006 := apR HO40006 hb (Kd.R_base ho33)
                      replace HO40015 := apR HO40015 hb (Kd.R_base ho33)
                      replace BK40001 := mvB BK40001 hb
                      replace BK40002 := mvB BK40002 hb
                      replace HB := mvH HB hb
                      clear n2_
                      clear hb ho33
                      refine hK.out _ _ ⟨(blk_cell BK40001.out 0).trans rfl, (blk_cell BK40001.out 1).trans rfl, (blk_cell BK40001.out 2).trans rfl⟩ (fun hHeld => ?_)
                      clear hK K
                      refine norm_ (a' := ?_) ?_ ?_
                      rotate_left
                      · show Act.put _ (some 46) _ = _
                        simp only [Act.put, List.setIfInBounds_toArray, List.set_cons_zero, List.set_cons_succ, i64_w, i32_w]
                        rfl
                      exact norm_ (by first | (simp only [putAll, Act.put, List.setIfInBounds_toArray, List.set_cons_zero, List.set_cons_succ]; done) | (simp only [putAll, Act.put, List.setIfInBounds_toArray, List.set_cons_zero, List.set_cons_succ]; rfl)) (hJ5_6_11 (v40005, v40008, v40014) _ ⟨hHeld, (Kd.R_ext (Kd.R_mono HO40006.out (fun _ hk => ⟨hk.2, hk.1⟩))), (Kd.R_ext (Kd.R_mono HO40009.out (fun _ hk => ⟨hk.1.2, hk.2⟩))), (Kd.R_ext HO40015.out), (blk_ext BK40001.out), (blk_ext BK40002.out), (below_extB HB.out)⟩)
                  · skip
                    rintro ⟨v40005, v40008⟩ w31 ⟨hS_, h0_, h1_, h2_, h3_, h4_⟩
                    have n0_ : Aside0 (Kd.R (Kd.int .i64) 3 w31 w.heap.size (fun k_ => some k_ ≠ (v40008 : Value).ownBlock) v40005 t40004) := ⟨h0_⟩
                    have n1_ : Aside0 (Kd.R (Kd.int .i64) 3 w31 w.heap.size (fun k_ => some k_ ≠ (v40005 : Value).ownBlock) v40008 y40007) := ⟨h1_⟩
                    have n2_ : Aside0 (w31.heap[gb40001]? = some (.cells #[.int .i64 a0_0, .slice (some ad40003) l0_1.length c0_1, .slice A0_2 l0_2.length c0_2] 44 (0, 0))) := ⟨h2_⟩
                    have n3_ : Aside0 (w31.heap[gb40002]? = some (.cells #[.int .i64 0, .slice none 0 0, .slice none 0 0] 44 (0, 0))) := ⟨h3_⟩
                    have n4_ : Aside0 (Below w.heap.size w w31) := ⟨h4_⟩
                    clear BK40001
                    clear BK40002
                    clear HB
                    clear h0_ h1_ h2_ h3_ h4_
                    have HO40006 := n0_
                    have HO40009 := n1_
                    have BK40001 := n2_
                    have BK40002 := n3_
                    have HB := n4_
                    clear n0_ n1_ n2_ n3_ n4_
                    have hHeld : w31.cell? ⟨gb40001, 0, none⟩ = some (.int .i64 a0_0) ∧ w31.cell? ⟨gb40001, 1, none⟩ = some (.slice (some ad40003) l0_1.length c0_1) ∧ w31.cell? ⟨gb40001, 2, none⟩ = some (.slice A0_2 l0_2.length c0_2) := hS_
                    refine norm_ (a' := ?_) ?_ ?_
                    rotate_left
                    · simp only [putAll, Act.put, List.setIfInBounds_toArray, List.set_cons_zero, List.set_cons_succ]
                      rfl
                    refine two_ (i := 9) (j := 11) (Ni := some 49) (Nj := some 51) #[true, true, true, true, true, true, true, true, true, true, true, false, false, false, true, false, false, false] #[true, true, true, true, true, true, true, true, true, false, true, true, false, false, true, false, false, false] rfl rfl rfl rfl (two_of HT_.out (by kernel_rfl)) (by decide) (by decide) (fun K hK => ?_) (fun K hK => ?_)
                    · skip
                      refine Kd.R_append_rows_step (Kd.int .i64) (w0 := w) w.heap.size (by rfl) (.tmp 46) (.tmp 48) 42 3 (.int .i64 0) 8 rfl Try.underlying42 info3 rfl (by decide) (by omega) v40008 y40007 l0_2 _ _ _ (fun k_ => some k_ ≠ (v40005 : Value).ownBlock) (fun _ => False) rfl rfl ?aO ?aR (fun _ _ h => h) (fun _ h => h.elim) ?aF ?aB ?aS ?aL ?_
                      (case aR => repeat (first | exact (Kd.C_below HR0_2.out HB.out) | (with_reducible refine Kd.C_alloc ?_ _) | (with_reducible refine Kd.C_drewN ?_ _) | (with_reducible refine Kd.C_drew ?_)))
                      (case aB => exact (below_extB HB.out))
                      (case aF => exact (fun k_ hk => Kd.fresh' (Kd.R_lt (Kd.R_ext HO40006.out)) k_ hk))
                      (case aO => exact (Kd.R_ext HO40009.out))
                      (case aS => exact (below_size (below_extB HB.out)))
                      (case aL => have := LMc23.out; omega)
                      intro v40011 w32 ho hb hg hat
                      rw [← Ny40010.out] at ho
                      have n0_ := Aside0.mk (blk_grown (g := gb40001) (o := .cells #[.int .i64 a0_0, .slice (some ad40003) l0_1.length c0_1, .slice A0_2 l0_2.length c0_2] 44 (0, 0)) (blk_ext BK40001.out) hg (Kd.R_ne HO40009.out BK40001.out (by decide)))
                      have n1_ := Aside0.mk (blk_grown (g := gb40002) (o := .cells #[.int .i64 0, .slice none 0 0, .slice none 0 0] 44 (0, 0)) (blk_ext BK40002.out) hg (Kd.R_ne HO40009.out BK40002.out (by decide)))
                      have n2_ := Aside0.mk (Kd.R_after (ok := (fun _ => True)) (Kd.R_ext (Kd.R_mono HO40006.out (fun _ hk => ⟨trivial, hk⟩))) hg hat)
                      have n3_ := Aside0.mk (hb)
                      have n4_ := Aside0.mk (ho)
                      clear BK40001
                      clear BK40002
                      clear HO40006
                      clear HB
                      clear HO40009
                      have BK40001 := n0_
                      have BK40002 := n1_
                      have HO40006 := n2_
                      have HB := n3_
                      have HO40012 := n4_
                      clear n0_ n1_ n2_ n3_ n4_
                      clear ho hb hg hat
                      refine hK.out _ _ ⟨(blk_cell BK40001.out 0).trans rfl, (blk_cell BK40001.out 1).trans rfl, (blk_cell BK40001.out 2).trans rfl⟩ (fun hHeld => ?_)
                      clear hK K
                      refine norm_ (a' := ?_) ?_ ?_
                      rotate_left
                      · show Act.put _ (some 49) _ = _
                        simp only [Act.put, List.setIfInBounds_toArray, List.set_cons_zero, List.set_cons_succ, i64_w, i32_w]
                        rfl
                      exact norm_ (by first | (simp only [putAll, Act.put, List.setIfInBounds_toArray, List.set_cons_zero, List.set_cons_succ]; done) | (simp only [putAll, Act.put, List.setIfInBounds_toArray, List.set_cons_zero, List.set_cons_succ]; rfl)) (hJ5_6_9 (v40005, v40008, v40011) _ ⟨hHeld, (Kd.R_ext (Kd.R_mono HO40006.out (fun _ hk => hk.2))), (Kd.R_ext HO40012.out), (blk_ext BK40001.out), (blk_ext BK40002.out), (below_extB HB.out)⟩)
                    · skip
                      refine Kd.R_lit_step (Kd.int .i64) _ 3 ?hg (N := 51) ?hd (xs := ([rd l0_1 a1] : List Int)) (inner := [.int .i64 (rd l0_1 a1)]) (ok := fun _ => True) (okp := fun _ => True) ?hr ?hp (fun _ hk => hk) trivial (Below.refl _ _) (Nat.le_refl _) (by simp) ?_; (case hd => rfl); (case hg => rfl); (case hr => first | (go_simp; done) | (go_simp; rfl)); (case hp => exact (Reps.one (show Kd.M (Kd.int .i64) _ _ _ (rd l0_1 a1) [.int .i64 (rd l0_1 a1)] from rfl) (Reps.none _ _)))
                      intro v40014 w32 ho33 hb hg_ hnew_
                      clear hg_ hnew_
                      (first | rw [← Ny40013.out] at ho33 | (simp only [Int.reduceToNat] at ho33; rw [← Ny40013.out] at ho33))
                      have n2_ := Aside0.mk (Kd.R_lower (Kd.R_new' (Kd.R_new' ho33 (Kd.R_lt (Kd.R_ext HO40006.out))) (Kd.R_lt (Kd.R_ext HO40009.out))) (below_size (below_extB HB.out)))
                      have HO40015 := n2_
                      replace HO40006 := apR HO40006 hb (Kd.R_base ho33)
                      replace HO40009 := apR HO40009 hb (Kd.R_base ho33)
                      replace BK40001 := mvB BK40001 hb
                      replace BK40002 := mvB BK40002 hb
                      replace HB := mvH HB hb
                      clear n2_
                      clear hb ho33
                      refine hK.out _ _ ⟨(blk_cell BK40001.out 0).trans rfl, (blk_cell BK40001.out 1).trans rfl, (blk_cell BK40001.out 2).trans rfl⟩ (fun hHeld => ?_)
                      clear hK K
                      refine norm_ (a' := ?_) ?_ ?_
                      rotate_left
                      · show Act.put _ (some 51) _ = _
                        simp only [Act.put, List.setIfInBounds_toArray, List.set_cons_zero, List.set_cons_succ, i64_w, i32_w]
                        rfl
                      exact norm_ (by first | (simp only [putAll, Act.put, List.setIfInBounds_toArray, List.set_cons_zero, List.set_cons_succ]; done) | (simp only [putAll, Act.put, List.setIfInBounds_toArray, List.set_cons_zero, List.set_cons_succ]; rfl)) (hJ5_6_11 (v40005, v40008, v40014) _ ⟨hHeld, (Kd.R_ext HO40006.out), (Kd.R_ext HO40009.out), (Kd.R_ext (Kd.R_mono HO40015.out (fun _ hk => ⟨hk.1.2, hk.2⟩))), (blk_ext BK40001.out), (blk_ext BK40002.out), (below_extB HB.out)⟩)
                · skip
                  rintro ⟨v40005, v40008, v40014⟩ w33 ⟨hS_, h0_, h1_, h2_, h3_, h4_, h5_⟩
                  have n0_ : Aside0 (Kd.R (Kd.int .i64) 3 w33 w.heap.size (fun k_ => some k_ ≠ (v40008 : Value).ownBlock ∧ some k_ ≠ (v40014 : Value).ownBlock) v40005 t40004) := ⟨h0_⟩
                  have n1_ : Aside0 (Kd.R (Kd.int .i64) 3 w33 w.heap.size (fun k_ => some k_ ≠ (v40005 : Value).ownBlock ∧ some k_ ≠ (v40014 : Value).ownBlock) v40008 y40007) := ⟨h1_⟩
                  have n2_ : Aside0 (Kd.R (Kd.int .i64) 3 w33 w.heap.size (fun k_ => some k_ ≠ (v40005 : Value).ownBlock ∧ some k_ ≠ (v40008 : Value).ownBlock) v40014 y40013) := ⟨h2_⟩
                  have n3_ : Aside0 (w33.heap[gb40001]? = some (.cells #[.int .i64 a0_0, .slice (some ad40003) l0_1.length c0_1, .slice A0_2 l0_2.length c0_2] 44 (0, 0))) := ⟨h3_⟩
                  have n4_ : Aside0 (w33.heap[gb40002]? = some (.cells #[.int .i64 0, .slice none 0 0, .slice none 0 0] 44 (0, 0))) := ⟨h4_⟩
                  have n5_ : Aside0 (Below w.heap.size w w33) := ⟨h5_⟩
                  clear BK40001
                  clear BK40002
                  clear HB
                  clear h0_ h1_ h2_ h3_ h4_ h5_
                  have HO40006 := n0_
                  have HO40009 := n1_
                  have HO40015 := n2_
                  have BK40001 := n3_
                  have BK40002 := n4_
                  have HB := n5_
                  clear n0_ n1_ n2_ n3_ n4_ n5_
                  have hHeld : w33.cell? ⟨gb40001, 0, none⟩ = some (.int .i64 a0_0) ∧ w33.cell? ⟨gb40001, 1, none⟩ = some (.slice (some ad40003) l0_1.length c0_1) ∧ w33.cell? ⟨gb40001, 2, none⟩ = some (.slice A0_2 l0_2.length c0_2) := hS_
                  refine norm_ (a' := ?_) ?_ ?_
                  rotate_left
                  · simp only [putAll, Act.put, List.setIfInBounds_toArray, List.set_cons_zero, List.set_cons_succ]
                    rfl
                  refine one_ (i := 9) (N := some 49) #[true, true, true, true, true, true, true, true, true, true, true, true, false, false, true, false, false, false] rfl rfl (one_of HT_.out (by kernel_rfl)) (by decide) (fun K hK => ?_)
                  refine Kd.R_append_rows_step (Kd.int .i64) (w0 := w) w.heap.size (by rfl) (.tmp 46) (.tmp 48) 42 3 (.int .i64 0) 8 rfl Try.underlying42 info3 rfl (by decide) (by omega) v40008 y40007 l0_2 _ _ _ (fun k_ => some k_ ≠ (v40005 : Value).ownBlock ∧ some k_ ≠ (v40014 : Value).ownBlock) (fun _ => False) rfl rfl ?aO ?aR (fun _ _ h => h) (fun _ h => h.elim) ?aF ?aB ?aS ?aL ?_
                  (case aR => repeat (first | exact (Kd.C_below HR0_2.out HB.out) | (with_reducible refine Kd.C_alloc ?_ _) | (with_reducible refine Kd.C_drewN ?_ _) | (with_reducible refine Kd.C_drew ?_)))
                  (case aB => exact (below_extB HB.out))
                  (case aF => exact (fun k_ hk => ⟨Kd.fresh' (Kd.R_lt (Kd.R_ext HO40006.out)) k_ hk, Kd.fresh' (Kd.R_lt (Kd.R_ext HO40015.out)) k_ hk⟩))
                  (case aO => exact (Kd.R_ext HO40009.out))
                  (case aS => exact (below_size (below_extB HB.out)))
                  (case aL => have := LMc23.out; omega)
                  intro v40011 w34 ho hb hg hat
                  rw [← Ny40010.out] at ho
                  have n0_ := Aside0.mk (blk_grown (g := gb40001) (o := .cells #[.int .i64 a0_0, .slice (some ad40003) l0_1.length c0_1, .slice A0_2 l0_2.length c0_2] 44 (0, 0)) (blk_ext BK40001.out) hg (Kd.R_ne HO40009.out BK40001.out (by decide)))
                  have n1_ := Aside0.mk (blk_grown (g := gb40002) (o := .cells #[.int .i64 0, .slice none 0 0, .slice none 0 0] 44 (0, 0)) (blk_ext BK40002.out) hg (Kd.R_ne HO40009.out BK40002.out (by decide)))
                  have n2_ := Aside0.mk (Kd.R_after (ok := (fun k_ => some k_ ≠ (v40014 : Value).ownBlock)) (Kd.R_ext (Kd.R_mono HO40006.out (fun _ hk => ⟨hk.2, hk.1⟩))) hg hat)
                  have n3_ := Aside0.mk (Kd.R_after (ok := (fun k_ => some k_ ≠ (v40005 : Value).ownBlock)) (Kd.R_ext HO40015.out) hg hat)
                  have n4_ := Aside0.mk (hb)
                  have n5_ := Aside0.mk (ho)
                  clear BK40001
                  clear BK40002
                  clear HO40006
                  clear HO40015
                  clear HB
                  clear HO40009
                  have BK40001 := n0_
                  have BK40002 := n1_
                  have HO40006 := n2_
                  have HO40015 := n3_
                  have HB := n4_
                  have HO40012 := n5_
                  clear n0_ n1_ n2_ n3_ n4_ n5_
                  clear ho hb hg hat
                  refine hK.out _ _ ⟨(blk_cell BK40001.out 0).trans rfl, (blk_cell BK40001.out 1).trans rfl, (blk_cell BK40001.out 2).trans rfl⟩ (fun hHeld => ?_)
                  clear hK K
                  refine norm_ (a' := ?_) ?_ ?_
                  rotate_left
                  · show Act.put _ (some 49) _ = _
                    simp only [Act.put, List.setIfInBounds_toArray, List.set_cons_zero, List.set_cons_succ, i64_w, i32_w]
                    rfl
                  exact norm_ (by first | (simp only [putAll, Act.put, List.setIfInBounds_toArray, List.set_cons_zero, List.set_cons_succ]; done) | (simp only [putAll, Act.put, List.setIfInBounds_toArray, List.set_cons_zero, List.set_cons_succ]; rfl)) (hJ5_6_9_11 (v40005, v40008, v40011, v40014) _ ⟨hHeld, (Kd.R_ext (Kd.R_mono HO40006.out (fun _ hk => ⟨hk.2, hk.1⟩))), (Kd.R_ext HO40012.out), (Kd.R_ext HO40015.out), (blk_ext BK40001.out), (blk_ext BK40002.out), (below_extB HB.out)⟩)
              · skip
                rintro ⟨v40005, v40008, v40011⟩ w32 ⟨hS_, h0_, h1_, h2_, h3_, h4_⟩
                have n0_ : Aside0 (Kd.R (Kd.int .i64) 3 w32 w.heap.size (fun k_ => some k_ ≠ (v40011 : Value).ownBlock) v40005 t40004) := ⟨h0_⟩
                have n1_ : Aside0 (Kd.R (Kd.int .i64) 3 w32 w.heap.size (fun k_ => some k_ ≠ (v40005 : Value).ownBlock) v40011 y40010) := ⟨h1_⟩
                have n2_ : Aside0 (w32.heap[gb40001]? = some (.cells #[.int .i64 a0_0, .slice (some ad40003) l0_1.length c0_1, .slice A0_2 l0_2.length c0_2] 44 (0, 0))) := ⟨h2_⟩
                have n3_ : Aside0 (w32.heap[gb40002]? = some (.cells #[.int .i64 0, .slice none 0 0, .slice none 0 0] 44 (0, 0))) := ⟨h3_⟩
                have n4_ : Aside0 (Below w.heap.size w w32) := ⟨h4_⟩
                clear BK40001
                clear BK40002
                clear HB
                clear h0_ h1_ h2_ h3_ h4_
                have HO40006 := n0_
                have HO40012 := n1_
                have BK40001 := n2_
                have BK40002 := n3_
                have HB := n4_
                clear n0_ n1_ n2_ n3_ n4_
                have hHeld : w32.cell? ⟨gb40001, 0, none⟩ = some (.int .i64 a0_0) ∧ w32.cell? ⟨gb40001, 1, none⟩ = some (.slice (some ad40003) l0_1.length c0_1) ∧ w32.cell? ⟨gb40001, 2, none⟩ = some (.slice A0_2 l0_2.length c0_2) := hS_
                refine norm_ (a' := ?_) ?_ ?_
                rotate_left
                · simp only [putAll, Act.put, List.setIfInBounds_toArray, List.set_cons_zero, List.set_cons_succ]
                  rfl
                refine one_ (i := 11) (N := some 51) #[true, true, true, true, true, true, true, true, true, true, true, true, false, false, true, false, false, false] rfl rfl (one_of HT_.out (by kernel_rfl)) (by decide) (fun K hK => ?_)
                refine Kd.R_lit_step (Kd.int .i64) _ 3 ?hg (N := 51) ?hd (xs := ([rd l0_1 a1] : List Int)) (inner := [.int .i64 (rd l0_1 a1)]) (ok := fun _ => True) (okp := fun _ => True) ?hr ?hp (fun _ hk => hk) trivial (Below.refl _ _) (Nat.le_refl _) (by simp) ?_; (case hd => rfl); (case hg => rfl); (case hr => first | (go_simp; done) | (go_simp; rfl)); (case hp => exact (Reps.one (show Kd.M (Kd.int .i64) _ _ _ (rd l0_1 a1) [.int .i64 (rd l0_1 a1)] from rfl) (Reps.none _ _)))
                intro v40014 w33 ho34 hb hg_ hnew_
                clear hg_ hnew_
                (first | rw [← Ny40013.out] at ho34 | (simp only [Int.reduceToNat] at ho34; rw [← Ny40013.out] at ho34))
                have n2_ := Aside0.mk (Kd.R_lower (Kd.R_new' (Kd.R_new' ho34 (Kd.R_lt (Kd.R_ext HO40006.out))) (Kd.R_lt (Kd.R_ext HO40012.out))) (below_size (below_extB HB.out)))
                have HO40015 := n2_
                replace HO40006 := apR HO40006 hb (Kd.R_base ho34)
                replace HO40012 := apR HO40012 hb (Kd.R_base ho34)
                replace BK40001 := mvB BK40001 hb
                replace BK40002 := mvB BK40002 hb
                replace HB := mvH HB hb
                clear n2_
                clear hb ho34
                refine hK.out _ _ ⟨(blk_cell BK40001.out 0).trans rfl, (blk_cell BK40001.out 1).trans rfl, (blk_cell BK40001.out 2).trans rfl⟩ (fun hHeld => ?_)
                clear hK K
                refine norm_ (a' := ?_) ?_ ?_
                rotate_left
                · show Act.put _ (some 51) _ = _
                  simp only [Act.put, List.setIfInBounds_toArray, List.set_cons_zero, List.set_cons_succ, i64_w, i32_w]
                  rfl
                exact norm_ (by first | (simp only [putAll, Act.put, List.setIfInBounds_toArray, List.set_cons_zero, List.set_cons_succ]; done) | (simp only [putAll, Act.put, List.setIfInBounds_toArray, List.set_cons_zero, List.set_cons_succ]; rfl)) (hJ5_6_9_11 (v40005, v40008, v40011, v40014) _ ⟨hHeld, (Kd.R_ext HO40006.out), (Kd.R_ext HO40012.out), (Kd.R_ext (Kd.R_mono HO40015.out (fun _ hk => ⟨hk.1.2, hk.2⟩))), (blk_ext BK40001.out), (blk_ext BK40002.out), (below_extB HB.out)⟩)
            rintro ⟨v40005, v40008, v40011, v40014⟩ w34 ⟨hS_, h0_, h1_, h2_, h3_, h4_, h5_⟩
            have n0_ : Aside0 (Kd.R (Kd.int .i64) 3 w34 w.heap.size (fun k_ => some k_ ≠ (v40011 : Value).ownBlock ∧ some k_ ≠ (v40014 : Value).ownBlock) v40005 t40004) := ⟨h0_⟩
            have n1_ : Aside0 (Kd.R (Kd.int .i64) 3 w34 w.heap.size (fun k_ => some k_ ≠ (v40005 : Value).ownBlock ∧ some k_ ≠ (v40014 : Value).ownBlock) v40011 y40010) := ⟨h1_⟩
            have n2_ : Aside0 (Kd.R (Kd.int .i64) 3 w34 w.heap.size (fun k_ => some k_ ≠ (v40005 : Value).ownBlock ∧ some k_ ≠ (v40011 : Value).ownBlock) v40014 y40013) := ⟨h2_⟩
            have n3_ : Aside0 (w34.heap[gb40001]? = some (.cells #[.int .i64 a0_0, .slice (some ad40003) l0_1.length c0_1, .slice A0_2 l0_2.length c0_2] 44 (0, 0))) := ⟨h3_⟩
            have n4_ : Aside0 (w34.heap[gb40002]? = some (.cells #[.int .i64 0, .slice none 0 0, .slice none 0 0] 44 (0, 0))) := ⟨h4_⟩
            have n5_ : Aside0 (Below w.heap.size w w34) := ⟨h5_⟩
            clear BK40001
            clear BK40002
            clear HB
            clear h0_ h1_ h2_ h3_ h4_ h5_
            have HO40006 := n0_
            have HO40012 := n1_
            have HO40015 := n2_
            have BK40001 := n3_
            have BK40002 := n4_
            have HB := n5_
            clear n0_ n1_ n2_ n3_ n4_ n5_
            have hHeld : w34.cell? ⟨gb40001, 0, none⟩ = some (.int .i64 a0_0) ∧ w34.cell? ⟨gb40001, 1, none⟩ = some (.slice (some ad40003) l0_1.length c0_1) ∧ w34.cell? ⟨gb40001, 2, none⟩ = some (.slice A0_2 l0_2.length c0_2) := hS_
            obtain ⟨Ao36, co36, eo36⟩ := Kd.R_slice HO40015.out
            (first | subst eo36 | (injection eo36 with f1_ f2_ f3_; have f4_ := f1_.symm; have f5_ := f3_.symm; clear f1_ f2_ f3_; subst f4_; subst f5_))
            refine norm_ (a' := ?_) ?_ ?_
            rotate_left
            · simp only [putAll, Act.put, List.setIfInBounds_toArray, List.set_cons_zero, List.set_cons_succ]
              rfl
            refine one_ (i := 12) (N := some 52) #[true, true, true, true, true, true, true, true, true, true, true, true, true, false, true, false, false, false] rfl rfl (one_of HT_.out (by kernel_rfl)) (by decide) (fun K hK => ?_)
            refine Kd.R_append_rows_step (Kd.int .i64) (w0 := w) w.heap.size (by rfl) (.tmp 49) (.tmp 51) 42 3 (.int .i64 0) 8 rfl Try.underlying42 info3 rfl (by decide) (by omega) v40011 y40010 y40013 _ _ _ (fun k_ => some k_ ≠ (v40005 : Value).ownBlock ∧ some k_ ≠ (.slice Ao36 y40013.length co36 : Value).ownBlock) (fun _ => False) rfl rfl ?aO ?aR (fun _ _ h => h) (fun _ h => h.elim) ?aF ?aB ?aS ?aL ?_
            (case aR => exact Kd.C_ext (Kd.R_reads' HO40015.out).2.2)
            (case aB => exact (below_extB HB.out))
            (case aF => exact (fun k_ hk => ⟨Kd.fresh' (Kd.R_lt (Kd.R_ext HO40006.out)) k_ hk, Kd.fresh' (Kd.R_lt (Kd.R_ext HO40015.out)) k_ hk⟩))
            (case aO => exact (Kd.R_ext HO40012.out))
            (case aS => exact (below_size (below_extB HB.out)))
            (case aL => have := LMc24.out; omega)
            intro v40017 w35 ho hb hg hat
            rw [← Ny40016.out] at ho
            have n0_ := Aside0.mk (blk_grown (g := gb40001) (o := .cells #[.int .i64 a0_0, .slice (some ad40003) l0_1.length c0_1, .slice A0_2 l0_2.length c0_2] 44 (0, 0)) (blk_ext BK40001.out) hg (Kd.R_ne HO40012.out BK40001.out (by decide)))
            have n1_ := Aside0.mk (blk_grown (g := gb40002) (o := .cells #[.int .i64 0, .slice none 0 0, .slice none 0 0] 44 (0, 0)) (blk_ext BK40002.out) hg (Kd.R_ne HO40012.out BK40002.out (by decide)))
            have n2_ := Aside0.mk (Kd.R_after (ok := (fun k_ => some k_ ≠ (.slice Ao36 y40013.length co36 : Value).ownBlock)) (Kd.R_ext (Kd.R_mono HO40006.out (fun _ hk => ⟨hk.2, hk.1⟩))) hg hat)
            have n3_ := Aside0.mk (Kd.R_after (ok := (fun k_ => some k_ ≠ (v40005 : Value).ownBlock)) (Kd.R_ext HO40015.out) hg hat)
            have n4_ := Aside0.mk (hb)
            have n5_ := Aside0.mk (ho)
            clear BK40001
            clear BK40002
            clear HO40006
            clear HO40015
            clear HB
            clear HO40012
            have BK40001 := n0_
            have BK40002 := n1_
            have HO40006 := n2_
            have HO40015 := n3_
            have HB := n4_
            have HO40018 := n5_
            clear n0_ n1_ n2_ n3_ n4_ n5_
            clear ho hb hg hat
            obtain ⟨Ao37, co37, eo37⟩ := Kd.R_slice HO40018.out
            (first | subst eo37 | (injection eo37 with f1_ f2_ f3_; have f4_ := f1_.symm; have f5_ := f3_.symm; clear f1_ f2_ f3_; subst f4_; subst f5_))
            obtain ⟨Ao38, co38, eo38⟩ := Kd.R_slice HO40006.out
            (first | subst eo38 | (injection eo38 with f1_ f2_ f3_; have f4_ := f1_.symm; have f5_ := f3_.symm; clear f1_ f2_ f3_; subst f4_; subst f5_))
            refine hK.out _ _ ⟨(blk_cell BK40001.out 0).trans rfl, (blk_cell BK40001.out 1).trans rfl, (blk_cell BK40001.out 2).trans rfl⟩ (fun hHeld => ?_)
            clear hK K
            refine norm_ (a' := ?_) ?_ ?_
            rotate_left
            · show Act.put _ (some 52) _ = _
              simp only [Act.put, List.setIfInBounds_toArray, List.set_cons_zero, List.set_cons_succ, i64_w, i32_w]
              rfl
            refine pure_ (i := 13) (N := some 53) (v := ?_) (a' := ?_) #[true, true, true, true, true, true, true, true, true, true, true, true, true, true, true, false, false, false] rfl rfl (any_of HT_.out (by kernel_rfl)) (fun _ _ _ h => h) (Or.inl ⟨by rfl, ?_⟩) ?_ ?_
            rotate_left
            · intro w'
              go_simp
              with_reducible rfl
            rotate_left
            · simp only [Act.put, List.setIfInBounds_toArray, List.set_cons_zero, List.set_cons_succ, i64_w, i32_w]
              rfl
            refine one_ (i := 15) (N := none) #[true, true, true, true, true, true, true, true, true, true, true, true, true, true, true, true, false, false] rfl rfl (one_of HT_.out (by kernel_rfl)) (by decide) (fun K hK => ?_)
            have hs39 : w35.cell? ⟨gb40002, 0, none⟩ = some (.int .i64 0) := (blk_cell BK40002.out 0).trans rfl
            have hfs39 := blk_frozen BK40002.out 0
            have hns39_0 := NB40001_40002.out
            have hms39_0 := NB40002_40001.out
            have hs40 : w35.cell? ⟨gb40002, 1, none⟩ = some (.slice none 0 0) := (blk_cell BK40002.out 1).trans rfl
            have hfs40 := blk_frozen BK40002.out 1
            have hns40_0 := NB40001_40002.out
            have hms40_0 := NB40002_40001.out
            have hs41 : w35.cell? ⟨gb40002, 2, none⟩ = some (.slice none 0 0) := (blk_cell BK40002.out 2).trans rfl
            have hfs41 := blk_frozen BK40002.out 2
            have hns41_0 := NB40001_40002.out
            have hms41_0 := NB40002_40001.out
            refine skip_ (w1 := ?_) (by rfl) rfl ?_ ?_
            rotate_left
            · go_simp
              rfl
            refine hK.out _ _ ⟨((cell_far (p := ⟨gb40002, _, none⟩) NB40001_40002.out _).trans (((cell_far (p := ⟨gb40002, _, none⟩) NB40001_40002.out _).trans (((cell_far (p := ⟨gb40002, _, none⟩) NB40001_40002.out _).trans (hHeld.1)))))), ((cell_far (p := ⟨gb40002, _, none⟩) NB40001_40002.out _).trans (((cell_far (p := ⟨gb40002, _, none⟩) NB40001_40002.out _).trans (((cell_far (p := ⟨gb40002, _, none⟩) NB40001_40002.out _).trans (hHeld.2.1)))))), ((cell_far (p := ⟨gb40002, _, none⟩) NB40001_40002.out _).trans (((cell_far (p := ⟨gb40002, _, none⟩) NB40001_40002.out _).trans (((cell_far (p := ⟨gb40002, _, none⟩) NB40001_40002.out _).trans (hHeld.2.2))))))⟩ (fun hHeld => ?_)
            clear hK K
            refine pure_ (i := 16) (N := some 7) (v := ?_) (a' := ?_) #[true, true, true, true, true, true, true, true, true, true, true, true, true, true, true, true, true, false] rfl rfl (any_of HT_.out (by kernel_rfl)) (fun _ _ _ h => h) (Or.inl ⟨by rfl, ?_⟩) ?_ ?_
            rotate_left
            · intro w'
              go_simp
              with_reducible rfl
            rotate_left
            · simp only [Act.put, List.setIfInBounds_toArray, List.set_cons_zero, List.set_cons_succ, i64_w, i32_w]
              rfl
            refine pure_ (i := 17) (N := some 8) (v := ?_) (a' := ?_) #[true, true, true, true, true, true, true, true, true, true, true, true, true, true, true, true, true, true] rfl rfl (any_of HT_.out (by kernel_rfl)) (fun _ _ _ h => h) (Or.inl ⟨by rfl, ?_⟩) ?_ ?_
            rotate_left
            · intro w'
              go_simp
              with_reducible rfl
            rotate_left
            · simp only [Act.put, List.setIfInBounds_toArray, List.set_cons_zero, List.set_cons_succ, i64_w, i32_w]
              rfl
            refine done_ (done_of HT_.out (by kernel_rfl)) ?_
            try go_wp2
            refine bodyPost_ret (results_ctt rfl _ _ gb40002 44 #[.int .i64 a0_0, .slice Ao38 t40004.length co38, .slice Ao37 y40016.length co37] (0, 0) _ rfl (by (with_reducible repeat (first | refine blk_drewN ?_ _ | refine blk_drew ?_ | refine blk_alloc ?_ _)); refine blk_put (cs := #[.int .i64 a0_0, .slice Ao38 t40004.length co38, .slice none 0 0]) ?_ 2 _ rfl; (with_reducible repeat (first | refine blk_drewN ?_ _ | refine blk_drew ?_ | refine blk_alloc ?_ _)); refine blk_put (cs := #[.int .i64 a0_0, .slice none 0 0, .slice none 0 0]) ?_ 1 _ rfl; (with_reducible repeat (first | refine blk_drewN ?_ _ | refine blk_drew ?_ | refine blk_alloc ?_ _)); refine blk_put (cs := #[.int .i64 0, .slice none 0 0, .slice none 0 0]) ?_ 0 _ rfl; exact blk_ext BK40002.out) Try.underlying44 rfl (by kernel_rfl)) rfl ?_
            exact ⟨_, _, by first | rfl | (simp [errW_none, errW_some] <;> rfl) | (simp [*, errW_none, errW_some] <;> rfl), Kd.R_ext (Kd.R_mono (Kd.R_far (p := ⟨gb40002, 2, none⟩) (Kd.R_far (p := ⟨gb40002, 1, none⟩) (Kd.R_far (p := ⟨gb40002, 0, none⟩) (Kd.R_types HO40006.out BK40002.out (by decide)) (fun _ hk => hk.2) (.int .i64 a0_0)) (fun _ hk => hk.2) (.slice Ao38 t40004.length co38)) (fun _ hk => hk.2) (.slice Ao37 y40016.length co37)) (fun _ hk => hk.1.2)), Kd.R_ext (Kd.R_mono (Kd.R_far (p := ⟨gb40002, 2, none⟩) (Kd.R_far (p := ⟨gb40002, 1, none⟩) (Kd.R_far (p := ⟨gb40002, 0, none⟩) (Kd.R_types HO40018.out BK40002.out (by decide)) (fun _ hk => hk.2) (.int .i64 a0_0)) (fun _ hk => hk.2) (.slice Ao38 t40004.length co38)) (fun _ hk => hk.2) (.slice Ao37 y40016.length co37)) (fun _ hk => hk.1.1)), below_extB HB.out⟩
          · rw [if_neg c21] at H
            have c21b0 : ((rd l0_1 a1) == (wrap64 (a2 + 1))) = false := beq_eq_false_iff_ne.mpr c21
            have c21b1 : ((rd l0_1 a1) != (wrap64 (a2 + 1))) = true := bne_iff_ne.mpr c21
            replace H := Option.bind_eq_some_iff.mp H
            obtain ⟨t40019, A420, H⟩ := H
            replace H : ((some (([] : List Int) : List Int)).bind fun y40022 => (if y40022.length + l0_2.length < 17592186044416 then ((some (y40022 ++ l0_2 : List Int)).bind fun y40025 => ((some (([a2] : List Int) : List Int)).bind fun y40028 => (if y40025.length + y40028.length < 17592186044416 then (some (a0_0, t40019, (y40025 ++ y40028), rd l0_1 a1, 0)) else (none)))) else (none))) = some (r1, r2, r3, r4, r5) := H
            have A42 := Aside0.mk A420
            clear A420
            obtain ⟨y40022, hy40022⟩ : ∃ y_ : List Int, y_ = (([] : List Int)) := ⟨_, rfl⟩
            replace H : (if y40022.length + l0_2.length < 17592186044416 then ((some (y40022 ++ l0_2 : List Int)).bind fun y40025 => ((some (([a2] : List Int) : List Int)).bind fun y40028 => (if y40025.length + y40028.length < 17592186044416 then (some (a0_0, t40019, (y40025 ++ y40028), rd l0_1 a1, 0)) else (none)))) else (none)) = some (r1, r2, r3, r4, r5) := by first | (rw [hy40022]; with_reducible exact H) | (have H2_ := (Option.bind_some _ _).symm.trans H; rw [hy40022]; with_reducible exact H2_) | (have H2_ := (Option.bind_some _ _).symm.trans H; with_reducible exact H2_) | with_reducible exact H | (rw [hy40022]; exact H) | exact H
            have Ny40022 := Aside0.mk hy40022
            clear hy40022
            replace H := if_some H; obtain ⟨c43, H⟩ := H
            have LMc43 := Aside0.mk c43
            clear c43
            obtain ⟨y40025, hy40025⟩ : ∃ y_ : List Int, y_ = (y40022 ++ l0_2) := ⟨_, rfl⟩
            replace H : ((some (([a2] : List Int) : List Int)).bind fun y40028 => (if y40025.length + y40028.length < 17592186044416 then (some (a0_0, t40019, (y40025 ++ y40028), rd l0_1 a1, 0)) else (none))) = some (r1, r2, r3, r4, r5) := by first | (rw [hy40025]; with_reducible exact H) | (have H2_ := (Option.bind_some _ _).symm.trans H; rw [hy40025]; with_reducible exact H2_) | (have H2_ := (Option.bind_some _ _).symm.trans H; with_reducible exact H2_) | with_reducible exact H | (rw [hy40025]; exact H) | exact H
            have Ny40025 := Aside0.mk hy40025
            clear hy40025
            obtain ⟨y40028, hy40028⟩ : ∃ y_ : List Int, y_ = (([a2] : List Int)) := ⟨_, rfl⟩
            replace H : (if y40025.length + y40028.length < 17592186044416 then (some (a0_0, t40019, (y40025 ++ y40028), rd l0_1 a1, 0)) else (none)) = some (r1, r2, r3, r4, r5) := by first | (rw [hy40028]; with_reducible exact H) | (have H2_ := (Option.bind_some _ _).symm.trans H; rw [hy40028]; with_reducible exact H2_) | (have H2_ := (Option.bind_some _ _).symm.trans H; with_reducible exact H2_) | with_reducible exact H | (rw [hy40028]; exact H) | exact H
            have Ny40028 := Aside0.mk hy40028
            clear hy40028
            replace H := if_some H; obtain ⟨c44, H⟩ := H
            have LMc44 := Aside0.mk c44
            clear c44
            obtain ⟨y40031, hy40031⟩ : ∃ y_ : List Int, y_ = (y40025 ++ y40028) := ⟨_, rfl⟩
            replace H : (some (a0_0, t40019, y40031, rd l0_1 a1, 0)) = some (r1, r2, r3, r4, r5) := by first | (rw [hy40031]; with_reducible exact H) | (have H2_ := (Option.bind_some _ _).symm.trans H; rw [hy40031]; with_reducible exact H2_) | (have H2_ := (Option.bind_some _ _).symm.trans H; with_reducible exact H2_) | with_reducible exact H | (rw [hy40031]; exact H) | exact H
            have Ny40031 := Aside0.mk hy40031
            clear hy40031
            simp only [Option.some.injEq, Prod.mk.injEq] at H
            obtain ⟨rfl, rfl, rfl, rfl, rfl⟩ := H
            have hnb45 := NB40001_40002.out
            have hnc45 := NB40002_40001.out
            have hcz46_0 : wc.cell? ⟨gb40001, 0, none⟩ = some (.int .i64 a0_0) := (blk_cell BK40001.out 0).trans rfl
            have hcz46_1 : wc.cell? ⟨gb40001, 1, none⟩ = some (.slice A0_1 l0_1.length c0_1) := (blk_cell BK40001.out 1).trans rfl
            have hcz46_2 : wc.cell? ⟨gb40001, 2, none⟩ = some (.slice A0_2 l0_2.length c0_2) := (blk_cell BK40001.out 2).trans rfl
            have hfz46_0 := blk_frozen BK40001.out 0
            have hfz46_1 := blk_frozen BK40001.out 1
            have hfz46_2 := blk_frozen BK40001.out 2
            have p40003 : 0 ≤ (a1 : Int) := of_decide_eq_true (by first | (with_reducible assumption) | assumption)
            have q40003 : a1 < (l0_1.length : Int) := of_decide_eq_true (by first | (with_reducible assumption) | assumption)
            obtain ⟨ad40003, e40003, hx40003_0⟩ := Kd.at_int HR0_1.out a1 p40003 q40003
            cases e40003
            replace hx40003_0 := (HB.out.cell (World.block_lt_of_cell? w _ hx40003_0)).trans hx40003_0
            replace p40003 := eq_true p40003
            replace q40003 := eq_true q40003
            try go_wp2
            have n0_ := Aside0.mk (blk_drew BK40001.out)
            have n1_ := Aside0.mk (blk_drew BK40002.out)
            have n2_ := Aside0.mk (below_drew1 HB.out)
            clear BK40001
            clear BK40002
            clear HB
            have BK40001 := n0_
            have BK40002 := n1_
            have HB := n2_
            clear n0_ n1_ n2_
            refine start_ (n := 18) (S := fun w' => w'.cell? ⟨gb40001, 0, none⟩ = some (.int .i64 a0_0) ∧ w'.cell? ⟨gb40001, 1, none⟩ = some (.slice (some ad40003) l0_1.length c0_1) ∧ w'.cell? ⟨gb40001, 2, none⟩ = some (.slice A0_2 l0_2.length c0_2)) (ds := []) #[false, false, false, false, false, false, false, false, false, false, false, false, false, false, false, false, false, false] (by kernel_rfl) rfl rfl ⟨(blk_cell BK40001.out 0).trans rfl, (blk_cell BK40001.out 1).trans rfl, (blk_cell BK40001.out 2).trans rfl⟩ (fun hHeld => ?_); refine with_tabW customsref33_Deliver.tab7 customsref33_Deliver.bits7 (fun HT_ HW_ => ?_)
            generalize wc.drew = w47 at BK40001 BK40002 HB hHeld ⊢
            refine pure_ (i := 0) (N := some 40) (v := ?_) (a' := ?_) #[true, false, false, false, false, false, false, false, false, false, false, false, false, false, false, false, false, false] rfl rfl (any_of HT_.out (by kernel_rfl)) (fun _ _ _ h => h) (Or.inl ⟨by rfl, ?_⟩) ?_ ?_
            rotate_left
            · intro w'
              go_simp
              with_reducible rfl
            rotate_left
            · simp only [Act.put, List.setIfInBounds_toArray, List.set_cons_zero, List.set_cons_succ, i64_w, i32_w]
              rfl
            refine pure_ (i := 2) (N := some 42) (v := ?_) (a' := ?_) #[true, false, true, false, false, false, false, false, false, false, false, false, false, false, false, false, false, false] rfl rfl (any_of HT_.out (by kernel_rfl)) (fun _ _ _ h => h) (Or.inl ⟨by rfl, ?_⟩) ?_ ?_
            rotate_left
            · intro w'
              go_simp
              with_reducible rfl
            rotate_left
            · simp only [Act.put, List.setIfInBounds_toArray, List.set_cons_zero, List.set_cons_succ, i64_w, i32_w]
              rfl
            refine pure_ (i := 4) (N := some 44) (v := ?_) (a' := ?_) #[true, false, true, false, true, false, false, false, false, false, false, false, false, false, false, false, false, false] rfl rfl (any_of HT_.out (by kernel_rfl)) (fun _ _ _ h => h) (Or.inl ⟨by rfl, ?_⟩) ?_ ?_
            rotate_left
            · intro w'
              go_simp
              with_reducible rfl
            rotate_left
            · simp only [Act.put, List.setIfInBounds_toArray, List.set_cons_zero, List.set_cons_succ, i64_w, i32_w]
              rfl
            refine pure_ (i := 7) (N := some 47) (v := ?_) (a' := ?_) #[true, false, true, false, true, false, false, true, false, false, false, false, false, false, false, false, false, false] rfl rfl (any_of HT_.out (by kernel_rfl)) (fun _ _ _ h => h) (Or.inl ⟨by rfl, ?_⟩) ?_ ?_
            rotate_left
            · intro w'
              go_simp
              with_reducible rfl
            rotate_left
            · simp only [Act.put, List.setIfInBounds_toArray, List.set_cons_zero, List.set_cons_succ, i64_w, i32_w]
              rfl
            refine pure_ (i := 10) (N := some 50) (v := ?_) (a' := ?_) #[true, false, true, false, true, false, false, true, false, false, true, false, false, false, false, false, false, false] rfl rfl (any_of HT_.out (by kernel_rfl)) (fun _ _ _ h => h) (Or.inl ⟨by rfl, ?_⟩) ?_ ?_
            rotate_left
            · intro w'
              go_simp
              with_reducible rfl
            rotate_left
            · simp only [Act.put, List.setIfInBounds_toArray, List.set_cons_zero, List.set_cons_succ, i64_w, i32_w]
              rfl
            refine pure_ (i := 14) (N := some 54) (v := ?_) (a' := ?_) #[true, false, true, false, true, false, false, true, false, false, true, false, false, false, true, false, false, false] rfl rfl (any_of HT_.out (by kernel_rfl)) (fun _ _ _ h => h) (Or.inl ⟨by rfl, ?_⟩) ?_ ?_
            rotate_left
            · intro w'
              go_simp
              with_reducible rfl
            rotate_left
            · simp only [Act.put, List.setIfInBounds_toArray, List.set_cons_zero, List.set_cons_succ, i64_w, i32_w]
              rfl
            refine take_ (i := 1) (N := some 41) (v := ?_) (a' := ?_) #[true, true, true, false, true, false, false, true, false, false, true, false, false, false, true, false, false, false] rfl rfl (take_ofW HT_.out HW_.out (by kernel_rfl)) (fun _ _ _ h => h) (Or.inl ⟨by rfl, ?_⟩) hHeld ?_ ?_
            rotate_left
            · rintro w' ⟨s0, s1, s2⟩
              go_simp
              with_reducible rfl
            rotate_left
            · simp only [Act.put, List.setIfInBounds_toArray, List.set_cons_zero, List.set_cons_succ, i64_w, i32_w]
              rfl
            refine take_ (i := 3) (N := some 43) (v := ?_) (a' := ?_) #[true, true, true, true, true, false, false, true, false, false, true, false, false, false, true, false, false, false] rfl rfl (take_ofW HT_.out HW_.out (by kernel_rfl)) (fun _ _ _ h => h) (Or.inl ⟨by rfl, ?_⟩) hHeld ?_ ?_
            rotate_left
            · rintro w' ⟨s0, s1, s2⟩
              go_simp
              with_reducible rfl
            rotate_left
            · simp only [Act.put, List.setIfInBounds_toArray, List.set_cons_zero, List.set_cons_succ, i64_w, i32_w]
              rfl
            refine take_ (i := 8) (N := some 48) (v := ?_) (a' := ?_) #[true, true, true, true, true, false, false, true, true, false, true, false, false, false, true, false, false, false] rfl rfl (take_ofW HT_.out HW_.out (by kernel_rfl)) (fun _ _ _ h => h) (Or.inl ⟨by rfl, ?_⟩) hHeld ?_ ?_
            rotate_left
            · rintro w' ⟨s0, s1, s2⟩
              go_simp
              with_reducible rfl
            rotate_left
            · simp only [Act.put, List.setIfInBounds_toArray, List.set_cons_zero, List.set_cons_succ, i64_w, i32_w]
              rfl
            refine join_ (σ := Value × Value × Value × Value) 5 #[true, true, true, true, true, true, true, true, true, true, true, true, false, false, true, false, false, false] (fun s_ => [(45, s_.1), (46, s_.2.1), (49, s_.2.2.1), (51, s_.2.2.2)]) (fun s_ w' => (w'.cell? ⟨gb40001, 0, none⟩ = some (.int .i64 a0_0) ∧ w'.cell? ⟨gb40001, 1, none⟩ = some (.slice (some ad40003) l0_1.length c0_1) ∧ w'.cell? ⟨gb40001, 2, none⟩ = some (.slice A0_2 l0_2.length c0_2)) ∧ (Kd.R (Kd.int .i64) 3 w' w.heap.size (fun k_ => some k_ ≠ (s_.2.2.1 : Value).ownBlock ∧ some k_ ≠ (s_.2.2.2 : Value).ownBlock) s_.1 t40019) ∧ (Kd.R (Kd.int .i64) 3 w' w.heap.size (fun k_ => some k_ ≠ (s_.1 : Value).ownBlock ∧ some k_ ≠ (s_.2.2.2 : Value).ownBlock) s_.2.2.1 y40025) ∧ (Kd.R (Kd.int .i64) 3 w' w.heap.size (fun k_ => some k_ ≠ (s_.1 : Value).ownBlock ∧ some k_ ≠ (s_.2.2.1 : Value).ownBlock) s_.2.2.2 y40028) ∧ (w'.heap[gb40001]? = some (.cells #[.int .i64 a0_0, .slice (some ad40003) l0_1.length c0_1, .slice A0_2 l0_2.length c0_2] 44 (0, 0))) ∧ (w'.heap[gb40002]? = some (.cells #[.int .i64 0, .slice none 0 0, .slice none 0 0] 44 (0, 0))) ∧ (Below w.heap.size w w')) ?_ ?_
            rotate_left
            · intro hJ5_6_9_11
              refine join_ (σ := Value × Value × Value) 6 #[true, true, true, true, true, true, true, true, true, true, true, false, false, false, true, false, false, false] (fun s_ => [(45, s_.1), (46, s_.2.1), (49, s_.2.2)]) (fun s_ w' => (w'.cell? ⟨gb40001, 0, none⟩ = some (.int .i64 a0_0) ∧ w'.cell? ⟨gb40001, 1, none⟩ = some (.slice (some ad40003) l0_1.length c0_1) ∧ w'.cell? ⟨gb40001, 2, none⟩ = some (.slice A0_2 l0_2.length c0_2)) ∧ (Kd.R (Kd.int .i64) 3 w' w.heap.size (fun k_ => some k_ ≠ (s_.2.2 : Value).ownBlock) s_.1 t40019) ∧ (Kd.R (Kd.int .i64) 3 w' w.heap.size (fun k_ => some k_ ≠ (s_.1 : Value).ownBlock) s_.2.2 y40025) ∧ (w'.heap[gb40001]? = some (.cells #[.int .i64 a0_0, .slice (some ad40003) l0_1.length c0_1, .slice A0_2 l0_2.length c0_2] 44 (0, 0))) ∧ (w'.heap[gb40002]? = some (.cells #[.int .i64 0, .slice none 0 0, .slice none 0 0] 44 (0, 0))) ∧ (Below w.heap.size w w')) ?_ ?_
              rotate_left
              · intro hJ5_6_9
                refine join_ (σ := Value × Value × Value) 6 #[true, true, true, true, true, true, true, true, true, false, true, true, false, false, true, false, false, false] (fun s_ => [(45, s_.1), (46, s_.2.1), (51, s_.2.2)]) (fun s_ w' => (w'.cell? ⟨gb40001, 0, none⟩ = some (.int .i64 a0_0) ∧ w'.cell? ⟨gb40001, 1, none⟩ = some (.slice (some ad40003) l0_1.length c0_1) ∧ w'.cell? ⟨gb40001, 2, none⟩ = some (.slice A0_2 l0_2.length c0_2)) ∧ (Kd.R (Kd.int .i64) 3 w' w.heap.size (fun k_ => some k_ ≠ (s_.2.1 : Value).ownBlock ∧ some k_ ≠ (s_.2.2 : Value).ownBlock) s_.1 t40019) ∧ (Kd.R (Kd.int .i64) 3 w' w.heap.size (fun k_ => some k_ ≠ (s_.1 : Value).ownBlock ∧ some k_ ≠ (s_.2.2 : Value).ownBlock) s_.2.1 y40022) ∧ (Kd.R (Kd.int .i64) 3 w' w.heap.size (fun k_ => some k_ ≠ (s_.1 : Value).ownBlock ∧ some k_ ≠ (s_.2.1 : Value).ownBlock) s_.2.2 y40028) ∧ (w'.heap[gb40001]? = some (.cells #[.int .i64 a0_0, .slice (some ad40003) l0_1.length c0_1, .slice A0_2 l0_2.length c0_2] 44 (0, 0))) ∧ (w'.heap[gb40002]? = some (.cells #[.int .i64 0, .slice none 0 0, .slice none 0 0] 44 (0, 0))) ∧ (Below w.heap.size w w')) ?_ ?_
                rotate_left
                · intro hJ5_6_11
                  refine join_ (σ := Value × Value) 7 #[true, true, true, true, true, true, true, true, true, false, true, false, false, false, true, false, false, false] (fun s_ => [(45, s_.1), (46, s_.2)]) (fun s_ w' => (w'.cell? ⟨gb40001, 0, none⟩ = some (.int .i64 a0_0) ∧ w'.cell? ⟨gb40001, 1, none⟩ = some (.slice (some ad40003) l0_1.length c0_1) ∧ w'.cell? ⟨gb40001, 2, none⟩ = some (.slice A0_2 l0_2.length c0_2)) ∧ (Kd.R (Kd.int .i64) 3 w' w.heap.size (fun k_ => some k_ ≠ (s_.2 : Value).ownBlock) s_.1 t40019) ∧ (Kd.R (Kd.int .i64) 3 w' w.heap.size (fun k_ => some k_ ≠ (s_.1 : Value).ownBlock) s_.2 y40022) ∧ (w'.heap[gb40001]? = some (.cells #[.int .i64 a0_0, .slice (some ad40003) l0_1.length c0_1, .slice A0_2 l0_2.length c0_2] 44 (0, 0))) ∧ (w'.heap[gb40002]? = some (.cells #[.int .i64 0, .slice none 0 0, .slice none 0 0] 44 (0, 0))) ∧ (Below w.heap.size w w')) ?_ ?_
                  rotate_left
                  · intro hJ5_6
                    refine join_ (σ := Value × Value) 7 #[true, true, true, true, true, true, false, true, true, false, true, true, false, false, true, false, false, false] (fun s_ => [(45, s_.1), (51, s_.2)]) (fun s_ w' => (w'.cell? ⟨gb40001, 0, none⟩ = some (.int .i64 a0_0) ∧ w'.cell? ⟨gb40001, 1, none⟩ = some (.slice (some ad40003) l0_1.length c0_1) ∧ w'.cell? ⟨gb40001, 2, none⟩ = some (.slice A0_2 l0_2.length c0_2)) ∧ (Kd.R (Kd.int .i64) 3 w' w.heap.size (fun k_ => some k_ ≠ (s_.2 : Value).ownBlock) s_.1 t40019) ∧ (Kd.R (Kd.int .i64) 3 w' w.heap.size (fun k_ => some k_ ≠ (s_.1 : Value).ownBlock) s_.2 y40028) ∧ (w'.heap[gb40001]? = some (.cells #[.int .i64 a0_0, .slice (some ad40003) l0_1.length c0_1, .slice A0_2 l0_2.length c0_2] 44 (0, 0))) ∧ (w'.heap[gb40002]? = some (.cells #[.int .i64 0, .slice none 0 0, .slice none 0 0] 44 (0, 0))) ∧ (Below w.heap.size w w')) ?_ ?_
                    rotate_left
                    · intro hJ5_11
                      refine join_ (σ := Value × Value) 7 #[true, true, true, true, true, false, true, true, true, false, true, true, false, false, true, false, false, false] (fun s_ => [(46, s_.1), (51, s_.2)]) (fun s_ w' => (w'.cell? ⟨gb40001, 0, none⟩ = some (.int .i64 a0_0) ∧ w'.cell? ⟨gb40001, 1, none⟩ = some (.slice (some ad40003) l0_1.length c0_1) ∧ w'.cell? ⟨gb40001, 2, none⟩ = some (.slice A0_2 l0_2.length c0_2)) ∧ (Kd.R (Kd.int .i64) 3 w' w.heap.size (fun k_ => some k_ ≠ (s_.2 : Value).ownBlock) s_.1 y40022) ∧ (Kd.R (Kd.int .i64) 3 w' w.heap.size (fun k_ => some k_ ≠ (s_.1 : Value).ownBlock) s_.2 y40028) ∧ (w'.heap[gb40001]? = some (.cells #[.int .i64 a0_0, .slice (some ad40003) l0_1.length c0_1, .slice A0_2 l0_2.length c0_2] 44 (0, 0))) ∧ (w'.heap[gb40002]? = some (.cells #[.int .i64 0, .slice none 0 0, .slice none 0 0] 44 (0, 0))) ∧ (Below w.heap.size w w')) ?_ ?_
                      rotate_left
                      · intro hJ6_11
                        refine join_ (σ := Value) 8 #[true, true, true, true, true, true, false, true, true, false, true, false, false, false, true, false, false, false] (fun s_ => [(45, s_)]) (fun s_ w' => (w'.cell? ⟨gb40001, 0, none⟩ = some (.int .i64 a0_0) ∧ w'.cell? ⟨gb40001, 1, none⟩ = some (.slice (some ad40003) l0_1.length c0_1) ∧ w'.cell? ⟨gb40001, 2, none⟩ = some (.slice A0_2 l0_2.length c0_2)) ∧ (Kd.R (Kd.int .i64) 3 w' w.heap.size (fun _ => True) s_ t40019) ∧ (w'.heap[gb40001]? = some (.cells #[.int .i64 a0_0, .slice (some ad40003) l0_1.length c0_1, .slice A0_2 l0_2.length c0_2] 44 (0, 0))) ∧ (w'.heap[gb40002]? = some (.cells #[.int .i64 0, .slice none 0 0, .slice none 0 0] 44 (0, 0))) ∧ (Below w.heap.size w w')) ?_ ?_
                        rotate_left
                        · intro hJ5
                          refine join_ (σ := Value) 8 #[true, true, true, true, true, false, true, true, true, false, true, false, false, false, true, false, false, false] (fun s_ => [(46, s_)]) (fun s_ w' => (w'.cell? ⟨gb40001, 0, none⟩ = some (.int .i64 a0_0) ∧ w'.cell? ⟨gb40001, 1, none⟩ = some (.slice (some ad40003) l0_1.length c0_1) ∧ w'.cell? ⟨gb40001, 2, none⟩ = some (.slice A0_2 l0_2.length c0_2)) ∧ (Kd.R (Kd.int .i64) 3 w' w.heap.size (fun _ => True) s_ y40022) ∧ (w'.heap[gb40001]? = some (.cells #[.int .i64 a0_0, .slice (some ad40003) l0_1.length c0_1, .slice A0_2 l0_2.length c0_2] 44 (0, 0))) ∧ (w'.heap[gb40002]? = some (.cells #[.int .i64 0, .slice none 0 0, .slice none 0 0] 44 (0, 0))) ∧ (Below w.heap.size w w')) ?_ ?_
                          rotate_left
                          · intro hJ6
                            refine join_ (σ := Value) 8 #[true, true, true, true, true, false, false, true, true, false, true, true, false, false, true, false, false, false] (fun s_ => [(51, s_)]) (fun s_ w' => (w'.cell? ⟨gb40001, 0, none⟩ = some (.int .i64 a0_0) ∧ w'.cell? ⟨gb40001, 1, none⟩ = some (.slice (some ad40003) l0_1.length c0_1) ∧ w'.cell? ⟨gb40001, 2, none⟩ = some (.slice A0_2 l0_2.length c0_2)) ∧ (Kd.R (Kd.int .i64) 3 w' w.heap.size (fun _ => True) s_ y40028) ∧ (w'.heap[gb40001]? = some (.cells #[.int .i64 a0_0, .slice (some ad40003) l0_1.length c0_1, .slice A0_2 l0_2.length c0_2] 44 (0, 0))) ∧ (w'.heap[gb40002]? = some (.cells #[.int .i64 0, .slice none 0 0, .slice none 0 0] 44 (0, 0))) ∧ (Below w.heap.size w w')) ?_ ?_
                            rotate_left
                            · intro hJ11
                              refine three_ (i := 5) (j := 6) (k := 11) (Ni := some 45) (Nj := some 46) (Nk := some 51) #[true, true, true, true, true, true, false, true, true, false, true, false, false, false, true, false, false, false] #[true, true, true, true, true, false, true, true, true, false, true, false, false, false, true, false, false, false] #[true, true, true, true, true, false, false, true, true, false, true, true, false, false, true, false, false, false] rfl rfl rfl rfl rfl rfl (three_of HT_.out (by kernel_rfl)) (by decide) (by decide) (by decide) (fun K hK => ?_) (fun K hK => ?_) (fun K hK => ?_)
                              · skip
                                refine goes_ Try.func74 (by kernel_rfl) rfl #[.slice (some ad40003) l0_1.length c0_1, .int .i64 a1] (by rfl) rfl rfl (by (try simp only [List.map_toArray, List.map_cons, List.map_nil]); first | done | rfl | (simp only [List.length_drop, List.length_take]; rfl)) ?_
                                with_reducible refine (customsref33_out.calls _ _ l0_1 a1 t40019 _ ?side1 ?side2 A42.out).mono ?_
                                (case side1 => repeat (first | exact (Kd.C_below HR0_1.out HB.out) | (with_reducible refine Kd.C_alloc ?_ _) | (with_reducible refine Kd.C_drewN ?_ _) | (with_reducible refine Kd.C_drew ?_)))
                                (case side2 => exact HC0_1.out)
                                rintro e w48 ⟨v40020, rfl, ho0, hb⟩
                                refine ⟨_, rfl, ?_⟩
                                have n0_ := Aside0.mk (Kd.R_lower ho0 (below_size (below_extB HB.out)))
                                have HO40021 := n0_
                                replace BK40001 := mvB BK40001 hb
                                replace BK40002 := mvB BK40002 hb
                                replace HB := mvH HB hb
                                clear n0_
                                (try clear hb)
                                (try clear hb2)
                                (try clear hk)
                                (try clear hi)
                                (try clear ho0)
                                refine hK.out _ _ ⟨(blk_cell BK40001.out 0).trans rfl, (blk_cell BK40001.out 1).trans rfl, (blk_cell BK40001.out 2).trans rfl⟩ (fun hHeld => ?_)
                                clear hK K
                                refine norm_ (a' := ?_) ?_ ?_
                                rotate_left
                                · show Act.put _ (some 45) _ = _
                                  simp only [Act.put, List.setIfInBounds_toArray, List.set_cons_zero, List.set_cons_succ, i64_w, i32_w]
                                  rfl
                                exact norm_ (by first | (simp only [putAll, Act.put, List.setIfInBounds_toArray, List.set_cons_zero, List.set_cons_succ]; done) | (simp only [putAll, Act.put, List.setIfInBounds_toArray, List.set_cons_zero, List.set_cons_succ]; rfl)) (hJ5 (v40020) _ ⟨hHeld, (Kd.R_ext HO40021.out), (blk_ext BK40001.out), (blk_ext BK40002.out), (below_extB HB.out)⟩)
                              · skip
                                refine Kd.R_lit_step (Kd.int .i64) _ 3 ?hg (N := 46) ?hd (xs := ([] : List Int)) (inner := []) (ok := fun _ => True) (okp := fun _ => True) ?hr ?hp (fun _ hk => hk) trivial (Below.refl _ _) (Nat.le_refl _) (by simp) ?_; (case hd => rfl); (case hg => rfl); (case hr => first | (go_simp; done) | (go_simp; rfl)); (case hp => exact (Reps.none _ _))
                                intro v40023 w48 ho49 hb hg_ hnew_
                                clear hg_ hnew_
                                (first | rw [← Ny40022.out] at ho49 | (simp only [Int.reduceToNat] at ho49; rw [← Ny40022.out] at ho49))
                                have n0_ := Aside0.mk (Kd.R_lower ho49 (below_size (below_extB HB.out)))
                                have HO40024 := n0_
                                replace BK40001 := mvB BK40001 hb
                                replace BK40002 := mvB BK40002 hb
                                replace HB := mvH HB hb
                                clear n0_
                                clear hb ho49
                                refine hK.out _ _ ⟨(blk_cell BK40001.out 0).trans rfl, (blk_cell BK40001.out 1).trans rfl, (blk_cell BK40001.out 2).trans rfl⟩ (fun hHeld => ?_)
                                clear hK K
                                refine norm_ (a' := ?_) ?_ ?_
                                rotate_left
                                · show Act.put _ (some 46) _ = _
                                  simp only [Act.put, List.setIfInBounds_toArray, List.set_cons_zero, List.set_cons_succ, i64_w, i32_w]
                                  rfl
                                exact norm_ (by first | (simp only [putAll, Act.put, List.setIfInBounds_toArray, List.set_cons_zero, List.set_cons_succ]; done) | (simp only [putAll, Act.put, List.setIfInBounds_toArray, List.set_cons_zero, List.set_cons_succ]; rfl)) (hJ6 (v40023) _ ⟨hHeld, (Kd.R_ext HO40024.out), (blk_ext BK40001.out), (blk_ext BK40002.out), (below_extB HB.out)⟩)
                              · skip
                                refine Kd.R_lit_step (Kd.int .i64) _ 3 ?hg (N := 51) ?hd (xs := ([a2] : List Int)) (inner := [.int .i64 a2]) (ok := fun _ => True) (okp := fun _ => True) ?hr ?hp (fun _ hk => hk) trivial (Below.refl _ _) (Nat.le_refl _) (by simp) ?_; (case hd => rfl); (case hg => rfl); (case hr => first | (go_simp; done) | (go_simp; rfl)); (case hp => exact (Reps.one (show Kd.M (Kd.int .i64) _ _ _ a2 [.int .i64 a2] from rfl) (Reps.none _ _)))
                                intro v40029 w48 ho49 hb hg_ hnew_
                                clear hg_ hnew_
                                (first | rw [← Ny40028.out] at ho49 | (simp only [Int.reduceToNat] at ho49; rw [← Ny40028.out] at ho49))
                                have n0_ := Aside0.mk (Kd.R_lower ho49 (below_size (below_extB HB.out)))
                                have HO40030 := n0_
                                replace BK40001 := mvB BK40001 hb
                                replace BK40002 := mvB BK40002 hb
                                replace HB := mvH HB hb
                                clear n0_
                                clear hb ho49
                                refine hK.out _ _ ⟨(blk_cell BK40001.out 0).trans rfl, (blk_cell BK40001.out 1).trans rfl, (blk_cell BK40001.out 2).trans rfl⟩ (fun hHeld => ?_)
                                clear hK K
                                refine norm_ (a' := ?_) ?_ ?_
                                rotate_left
                                · show Act.put _ (some 51) _ = _
                                  simp only [Act.put, List.setIfInBounds_toArray, List.set_cons_zero, List.set_cons_succ, i64_w, i32_w]
                                  rfl
                                exact norm_ (by first | (simp only [putAll, Act.put, List.setIfInBounds_toArray, List.set_cons_zero, List.set_cons_succ]; done) | (simp only [putAll, Act.put, List.setIfInBounds_toArray, List.set_cons_zero, List.set_cons_succ]; rfl)) (hJ11 (v40029) _ ⟨hHeld, (Kd.R_ext HO40030.out), (blk_ext BK40001.out), (blk_ext BK40002.out), (below_extB HB.out)⟩)
                            · skip
                              rintro v40029 w50 ⟨hS_, h0_, h1_, h2_, h3_⟩
                              have n0_ : Aside0 (Kd.R (Kd.int .i64) 3 w50 w.heap.size (fun _ => True) v40029 y40028) := ⟨h0_⟩
                              have n1_ : Aside0 (w50.heap[gb40001]? = some (.cells #[.int .i64 a0_0, .slice (some ad40003) l0_1.length c0_1, .slice A0_2 l0_2.length c0_2] 44 (0, 0))) := ⟨h1_⟩
                              have n2_ : Aside0 (w50.heap[gb40002]? = some (.cells #[.int .i64 0, .slice none 0 0, .slice none 0 0] 44 (0, 0))) := ⟨h2_⟩
                              have n3_ : Aside0 (Below w.heap.size w w50) := ⟨h3_⟩
                              clear BK40001
                              clear BK40002
                              clear HB
                              clear h0_ h1_ h2_ h3_
                              have HO40030 := n0_
                              have BK40001 := n1_
                              have BK40002 := n2_
                              have HB := n3_
                              clear n0_ n1_ n2_ n3_
                              have hHeld : w50.cell? ⟨gb40001, 0, none⟩ = some (.int .i64 a0_0) ∧ w50.cell? ⟨gb40001, 1, none⟩ = some (.slice (some ad40003) l0_1.length c0_1) ∧ w50.cell? ⟨gb40001, 2, none⟩ = some (.slice A0_2 l0_2.length c0_2) := hS_
                              refine norm_ (a' := ?_) ?_ ?_
                              rotate_left
                              · simp only [putAll, Act.put, List.setIfInBounds_toArray, List.set_cons_zero, List.set_cons_succ]
                                rfl
                              refine two_ (i := 5) (j := 6) (Ni := some 45) (Nj := some 46) #[true, true, true, true, true, true, false, true, true, false, true, true, false, false, true, false, false, false] #[true, true, true, true, true, false, true, true, true, false, true, true, false, false, true, false, false, false] rfl rfl rfl rfl (two_of HT_.out (by kernel_rfl)) (by decide) (by decide) (fun K hK => ?_) (fun K hK => ?_)
                              · skip
                                refine goes_ Try.func74 (by kernel_rfl) rfl #[.slice (some ad40003) l0_1.length c0_1, .int .i64 a1] (by rfl) rfl rfl (by (try simp only [List.map_toArray, List.map_cons, List.map_nil]); first | done | rfl | (simp only [List.length_drop, List.length_take]; rfl)) ?_
                                with_reducible refine (customsref33_out.calls _ _ l0_1 a1 t40019 _ ?side1 ?side2 A42.out).mono ?_
                                (case side1 => repeat (first | exact (Kd.C_below HR0_1.out HB.out) | (with_reducible refine Kd.C_alloc ?_ _) | (with_reducible refine Kd.C_drewN ?_ _) | (with_reducible refine Kd.C_drew ?_)))
                                (case side2 => exact HC0_1.out)
                                rintro e w51 ⟨v40020, rfl, ho0, hb⟩
                                refine ⟨_, rfl, ?_⟩
                                have n1_ := Aside0.mk (Kd.R_lower (Kd.R_new' ho0 (Kd.R_lt (Kd.R_ext HO40030.out))) (below_size (below_extB HB.out)))
                                have HO40021 := n1_
                                replace HO40030 := apR HO40030 hb (Kd.R_base ho0)
                                replace BK40001 := mvB BK40001 hb
                                replace BK40002 := mvB BK40002 hb
                                replace HB := mvH HB hb
                                clear n1_
                                (try clear hb)
                                (try clear hb2)
                                (try clear hk)
                                (try clear hi)
                                (try clear ho0)
                                refine hK.out _ _ ⟨(blk_cell BK40001.out 0).trans rfl, (blk_cell BK40001.out 1).trans rfl, (blk_cell BK40001.out 2).trans rfl⟩ (fun hHeld => ?_)
                                clear hK K
                                refine norm_ (a' := ?_) ?_ ?_
                                rotate_left
                                · show Act.put _ (some 45) _ = _
                                  simp only [Act.put, List.setIfInBounds_toArray, List.set_cons_zero, List.set_cons_succ, i64_w, i32_w]
                                  rfl
                                exact norm_ (by first | (simp only [putAll, Act.put, List.setIfInBounds_toArray, List.set_cons_zero, List.set_cons_succ]; done) | (simp only [putAll, Act.put, List.setIfInBounds_toArray, List.set_cons_zero, List.set_cons_succ]; rfl)) (hJ5_11 (v40020, v40029) _ ⟨hHeld, (Kd.R_ext (Kd.R_mono HO40021.out (fun _ hk => hk.2))), (Kd.R_ext (Kd.R_mono HO40030.out (fun _ hk => hk.2))), (blk_ext BK40001.out), (blk_ext BK40002.out), (below_extB HB.out)⟩)
                              · skip
                                refine Kd.R_lit_step (Kd.int .i64) _ 3 ?hg (N := 46) ?hd (xs := ([] : List Int)) (inner := []) (ok := fun _ => True) (okp := fun _ => True) ?hr ?hp (fun _ hk => hk) trivial (Below.refl _ _) (Nat.le_refl _) (by simp) ?_; (case hd => rfl); (case hg => rfl); (case hr => first | (go_simp; done) | (go_simp; rfl)); (case hp => exact (Reps.none _ _))
                                intro v40023 w51 ho52 hb hg_ hnew_
                                clear hg_ hnew_
                                (first | rw [← Ny40022.out] at ho52 | (simp only [Int.reduceToNat] at ho52; rw [← Ny40022.out] at ho52))
                                have n1_ := Aside0.mk (Kd.R_lower (Kd.R_new' ho52 (Kd.R_lt (Kd.R_ext HO40030.out))) (below_size (below_extB HB.out)))
                                have HO40024 := n1_
                                replace HO40030 := apR HO40030 hb (Kd.R_base ho52)
                                replace BK40001 := mvB BK40001 hb
                                replace BK40002 := mvB BK40002 hb
                                replace HB := mvH HB hb
                                clear n1_
                                clear hb ho52
                                refine hK.out _ _ ⟨(blk_cell BK40001.out 0).trans rfl, (blk_cell BK40001.out 1).trans rfl, (blk_cell BK40001.out 2).trans rfl⟩ (fun hHeld => ?_)
                                clear hK K
                                refine norm_ (a' := ?_) ?_ ?_
                                rotate_left
                                · show Act.put _ (some 46) _ = _
                                  simp only [Act.put, List.setIfInBounds_toArray, List.set_cons_zero, List.set_cons_succ, i64_w, i32_w]
                                  rfl
                                exact norm_ (by first | (simp only [putAll, Act.put, List.setIfInBounds_toArray, List.set_cons_zero, List.set_cons_succ]; done) | (simp only [putAll, Act.put, List.setIfInBounds_toArray, List.set_cons_zero, List.set_cons_succ]; rfl)) (hJ6_11 (v40023, v40029) _ ⟨hHeld, (Kd.R_ext (Kd.R_mono HO40024.out (fun _ hk => hk.2))), (Kd.R_ext (Kd.R_mono HO40030.out (fun _ hk => hk.2))), (blk_ext BK40001.out), (blk_ext BK40002.out), (below_extB HB.out)⟩)
                          · skip
                            rintro v40023 w50 ⟨hS_, h0_, h1_, h2_, h3_⟩
                            have n0_ : Aside0 (Kd.R (Kd.int .i64) 3 w50 w.heap.size (fun _ => True) v40023 y40022) := ⟨h0_⟩
                            have n1_ : Aside0 (w50.heap[gb40001]? = some (.cells #[.int .i64 a0_0, .slice (some ad40003) l0_1.length c0_1, .slice A0_2 l0_2.length c0_2] 44 (0, 0))) := ⟨h1_⟩
                            have n2_ : Aside0 (w50.heap[gb40002]? = some (.cells #[.int .i64 0, .slice none 0 0, .slice none 0 0] 44 (0, 0))) := ⟨h2_⟩
                            have n3_ : Aside0 (Below w.heap.size w w50) := ⟨h3_⟩
                            clear BK40001
                            clear BK40002
                            clear HB
                            clear h0_ h1_ h2_ h3_
                            have HO40024 := n0_
                            have BK40001 := n1_
                            have BK40002 := n2_
                            have HB := n3_
                            clear n0_ n1_ n2_ n3_
                            have hHeld : w50.cell? ⟨gb40001, 0, none⟩ = some (.int .i64 a0_0) ∧ w50.cell? ⟨gb40001, 1, none⟩ = some (.slice (some ad40003) l0_1.length c0_1) ∧ w50.cell? ⟨gb40001, 2, none⟩ = some (.slice A0_2 l0_2.length c0_2) := hS_
                            refine norm_ (a' := ?_) ?_ ?_
                            rotate_left
                            · simp only [putAll, Act.put, List.setIfInBounds_toArray, List.set_cons_zero, List.set_cons_succ]
                              rfl
                            refine two_ (i := 5) (j := 11) (Ni := some 45) (Nj := some 51) #[true, true, true, true, true, true, true, true, true, false, true, false, false, false, true, false, false, false] #[true, true, true, true, true, false, true, true, true, false, true, true, false, false, true, false, false, false] rfl rfl rfl rfl (two_of HT_.out (by kernel_rfl)) (by decide) (by decide) (fun K hK => ?_) (fun K hK => ?_)
                            · skip
                              refine goes_ Try.func74 (by kernel_rfl) rfl #[.slice (some ad40003) l0_1.length c0_1, .int .i64 a1] (by rfl) rfl rfl (by (try simp only [List.map_toArray, List.map_cons, List.map_nil]); first | done | rfl | (simp only [List.length_drop, List.length_take]; rfl)) ?_
                              with_reducible refine (customsref33_out.calls _ _ l0_1 a1 t40019 _ ?side1 ?side2 A42.out).mono ?_
                              (case side1 => repeat (first | exact (Kd.C_below HR0_1.out HB.out) | (with_reducible refine Kd.C_alloc ?_ _) | (with_reducible refine Kd.C_drewN ?_ _) | (with_reducible refine Kd.C_drew ?_)))
                              (case side2 => exact HC0_1.out)
                              rintro e w51 ⟨v40020, rfl, ho0, hb⟩
                              refine ⟨_, rfl, ?_⟩
                              have n1_ := Aside0.mk (Kd.R_lower (Kd.R_new' ho0 (Kd.R_lt (Kd.R_ext HO40024.out))) (below_size (below_extB HB.out)))
                              have HO40021 := n1_
                              replace HO40024 := apR HO40024 hb (Kd.R_base ho0)
                              replace BK40001 := mvB BK40001 hb
                              replace BK40002 := mvB BK40002 hb
                              replace HB := mvH HB hb
                              clear n1_
                              (try clear hb)
                              (try clear hb2)
                              (try clear hk)
                              (try clear hi)
                              (try clear ho0)
                              refine hK.out _ _ ⟨(blk_cell BK40001.out 0).trans rfl, (blk_cell BK40001.out 1).trans rfl, (blk_cell BK40001.out 2).trans rfl⟩ (fun hHeld => ?_)
                              clear hK K
                              refine norm_ (a' := ?_) ?_ ?_
                              rotate_left
                              · show Act.put _ (some 45) _ = _
                                simp only [Act.put, List.setIfInBounds_toArray, List.set_cons_zero, List.set_cons_succ, i64_w, i32_w]
                                rfl
                              exact norm_ (by first | (simp only [putAll, Act.put, List.setIfInBounds_toArray, List.set_cons_zero, List.set_cons_succ]; done) | (simp only [putAll, Act.put, List.setIfInBounds_toArray, List.set_cons_zero, List.set_cons_succ]; rfl)) (hJ5_6 (v40020, v40023) _ ⟨hHeld, (Kd.R_ext (Kd.R_mono HO40021.out (fun _ hk => hk.2))), (Kd.R_ext (Kd.R_mono HO40024.out (fun _ hk => hk.2))), (blk_ext BK40001.out), (blk_ext BK40002.out), (below_extB HB.out)⟩)
                            · skip
                              refine Kd.R_lit_step (Kd.int .i64) _ 3 ?hg (N := 51) ?hd (xs := ([a2] : List Int)) (inner := [.int .i64 a2]) (ok := fun _ => True) (okp := fun _ => True) ?hr ?hp (fun _ hk => hk) trivial (Below.refl _ _) (Nat.le_refl _) (by simp) ?_; (case hd => rfl); (case hg => rfl); (case hr => first | (go_simp; done) | (go_simp; rfl)); (case hp => exact (Reps.one (show Kd.M (Kd.int .i64) _ _ _ a2 [.int .i64 a2] from rfl) (Reps.none _ _)))
                              intro v40029 w51 ho52 hb hg_ hnew_
                              clear hg_ hnew_
                              (first | rw [← Ny40028.out] at ho52 | (simp only [Int.reduceToNat] at ho52; rw [← Ny40028.out] at ho52))
                              have n1_ := Aside0.mk (Kd.R_lower (Kd.R_new' ho52 (Kd.R_lt (Kd.R_ext HO40024.out))) (below_size (below_extB HB.out)))
                              have HO40030 := n1_
                              replace HO40024 := apR HO40024 hb (Kd.R_base ho52)
                              replace BK40001 := mvB BK40001 hb
                              replace BK40002 := mvB BK40002 hb
                              replace HB := mvH HB hb
                              clear n1_
                              clear hb ho52
                              refine hK.out _ _ ⟨(blk_cell BK40001.out 0).trans rfl, (blk_cell BK40001.out 1).trans rfl, (blk_cell BK40001.out 2).trans rfl⟩ (fun hHeld => ?_)
                              clear hK K
                              refine norm_ (a' := ?_) ?_ ?_
                              rotate_left
                              · show Act.put _ (some 51) _ = _
                                simp only [Act.put, List.setIfInBounds_toArray, List.set_cons_zero, List.set_cons_succ, i64_w, i32_w]
                                rfl
                              exact norm_ (by first | (simp only [putAll, Act.put, List.setIfInBounds_toArray, List.set_cons_zero, List.set_cons_succ]; done) | (simp only [putAll, Act.put, List.setIfInBounds_toArray, List.set_cons_zero, List.set_cons_succ]; rfl)) (hJ6_11 (v40023, v40029) _ ⟨hHeld, (Kd.R_ext (Kd.R_mono HO40024.out (fun _ hk => hk.2))), (Kd.R_ext (Kd.R_mono HO40030.out (fun _ hk => hk.2))), (blk_ext BK40001.out), (blk_ext BK40002.out), (below_extB HB.out)⟩)
                        · skip
                          rintro v40020 w49 ⟨hS_, h0_, h1_, h2_, h3_⟩
                          have n0_ : Aside0 (Kd.R (Kd.int .i64) 3 w49 w.heap.size (fun _ => True) v40020 t40019) := ⟨h0_⟩
                          have n1_ : Aside0 (w49.heap[gb40001]? = some (.cells #[.int .i64 a0_0, .slice (some ad40003) l0_1.length c0_1, .slice A0_2 l0_2.length c0_2] 44 (0, 0))) := ⟨h1_⟩
                          have n2_ : Aside0 (w49.heap[gb40002]? = some (.cells #[.int .i64 0, .slice none 0 0, .slice none 0 0] 44 (0, 0))) := ⟨h2_⟩
                          have n3_ : Aside0 (Below w.heap.size w w49) := ⟨h3_⟩
                          clear BK40001
                          clear BK40002
                          clear HB
                          clear h0_ h1_ h2_ h3_
                          have HO40021 := n0_
                          have BK40001 := n1_
                          have BK40002 := n2_
                          have HB := n3_
                          clear n0_ n1_ n2_ n3_
                          have hHeld : w49.cell? ⟨gb40001, 0, none⟩ = some (.int .i64 a0_0) ∧ w49.cell? ⟨gb40001, 1, none⟩ = some (.slice (some ad40003) l0_1.length c0_1) ∧ w49.cell? ⟨gb40001, 2, none⟩ = some (.slice A0_2 l0_2.length c0_2) := hS_
                          refine norm_ (a' := ?_) ?_ ?_
                          rotate_left
                          · simp only [putAll, Act.put, List.setIfInBounds_toArray, List.set_cons_zero, List.set_cons_succ]
                            rfl
                          refine two_ (i := 6) (j := 11) (Ni := some 46) (Nj := some 51) #[true, true, true, true, true, true, true, true, true, false, true, false, false, false, true, false, false, false] #[true, true, true, true, true, true, false, true, true, false, true, true, false, false, true, false, false, false] rfl rfl rfl rfl (two_of HT_.out (by kernel_rfl)) (by decide) (by decide) (fun K hK => ?_) (fun K hK => ?_)
                          · skip
                            refine Kd.R_lit_step (Kd.int .i64) _ 3 ?hg (N := 46) ?hd (xs := ([] : List Int)) (inner := []) (ok := fun _ => True) (okp := fun _ => True) ?hr ?hp (fun _ hk => hk) trivial (Below.refl _ _) (Nat.le_refl _) (by simp) ?_; (case hd => rfl); (case hg => rfl); (case hr => first | (go_simp; done) | (go_simp; rfl)); (case hp => exact (Reps.none _ _))
                            intro v40023 w50 ho51 hb hg_ hnew_
                            clear hg_ hnew_
                            (first | rw [← Ny40022.out] at ho51 | (simp only [Int.reduceToNat] at ho51; rw [← Ny40022.out] at ho51))
                            have n1_ := Aside0.mk (Kd.R_lower (Kd.R_new' ho51 (Kd.R_lt (Kd.R_ext HO40021.out))) (below_size (below_extB HB.out)))
                            have HO40024 := n1_
                            replace HO40021 := apR HO40021 hb (Kd.R_base ho51)
                            replace BK40001 := mvB BK40001 hb
                            replace BK40002 := mvB BK40002 hb
                            replace HB := mvH HB hb
                            clear n1_
                            clear hb ho51
                            refine hK.out _ _ ⟨(blk_cell BK40001.out 0).trans rfl, (blk_cell BK40001.out 1).trans rfl, (blk_cell BK40001.out 2).trans rfl⟩ (fun hHeld => ?_)
                            clear hK K
                            refine norm_ (a' := ?_) ?_ ?_
                            rotate_left
                            · show Act.put _ (some 46) _ = _
                              simp only [Act.put, List.setIfInBounds_toArray, List.set_cons_zero, List.set_cons_succ, i64_w, i32_w]
                              rfl
                            exact norm_ (by first | (simp only [putAll, Act.put, List.setIfInBounds_toArray, List.set_cons_zero, List.set_cons_succ]; done) | (simp only [putAll, Act.put, List.setIfInBounds_toArray, List.set_cons_zero, List.set_cons_succ]; rfl)) (hJ5_6 (v40020, v40023) _ ⟨hHeld, (Kd.R_ext (Kd.R_mono HO40021.out (fun _ hk => hk.2))), (Kd.R_ext (Kd.R_mono HO40024.out (fun _ hk => hk.2))), (blk_ext BK40001.out), (blk_ext BK40002.out), (below_extB HB.out)⟩)
                          · skip
                            refine Kd.R_lit_step (Kd.int .i64) _ 3 ?hg (N := 51) ?hd (xs := ([a2] : List Int)) (inner := [.int .i64 a2]) (ok := fun _ => True) (okp := fun _ => True) ?hr ?hp (fun _ hk => hk) trivial (Below.refl _ _) (Nat.le_refl _) (by simp) ?_; (case hd => rfl); (case hg => rfl); (case hr => first | (go_simp; done) | (go_simp; rfl)); (case hp => exact (Reps.one (show Kd.M (Kd.int .i64) _ _ _ a2 [.int .i64 a2] from rfl) (Reps.none _ _)))
                            intro v40029 w50 ho51 hb hg_ hnew_
                            clear hg_ hnew_
                            (first | rw [← Ny40028.out] at ho51 | (simp only [Int.reduceToNat] at ho51; rw [← Ny40028.out] at ho51))
                            have n1_ := Aside0.mk (Kd.R_lower (Kd.R_new' ho51 (Kd.R_lt (Kd.R_ext HO40021.out))) (below_size (below_extB HB.out)))
                            have HO40030 := n1_
                            replace HO40021 := apR HO40021 hb (Kd.R_base ho51)
                            replace BK40001 := mvB BK40001 hb
                            replace BK40002 := mvB BK40002 hb
                            replace HB := mvH HB hb
                            clear n1_
                            clear hb ho51
                            refine hK.out _ _ ⟨(blk_cell BK40001.out 0).trans rfl, (blk_cell BK40001.out 1).trans rfl, (blk_cell BK40001.out 2).trans rfl⟩ (fun hHeld => ?_)
                            clear hK K
                            refine norm_ (a' := ?_) ?_ ?_
                            rotate_left
                            · show Act.put _ (some 51) _ = _
                              simp only [Act.put, List.setIfInBounds_toArray, List.set_cons_zero, List.set_cons_succ, i64_w, i32_w]
                              rfl
                            exact norm_ (by first | (simp only [putAll, Act.put, List.setIfInBounds_toArray, List.set_cons_zero, List.set_cons_succ]; done) | (simp only [putAll, Act.put, List.setIfInBounds_toArray, List.set_cons_zero, List.set_cons_succ]; rfl)) (hJ5_11 (v40020, v40029) _ ⟨hHeld, (Kd.R_ext (Kd.R_mono HO40021.out (fun _ hk => hk.2))), (Kd.R_ext (Kd.R_mono HO40030.out (fun _ hk => hk.2))), (blk_ext BK40001.out), (blk_ext BK40002.out), (below_extB HB.out)⟩)
                      · skip
                        rintro ⟨v40023, v40029⟩ w52 ⟨hS_, h0_, h1_, h2_, h3_, h4_⟩
                        have n0_ : Aside0 (Kd.R (Kd.int .i64) 3 w52 w.heap.size (fun k_ => some k_ ≠ (v40029 : Value).ownBlock) v40023 y40022) := ⟨h0_⟩
                        have n1_ : Aside0 (Kd.R (Kd.int .i64) 3 w52 w.heap.size (fun k_ => some k_ ≠ (v40023 : Value).ownBlock) v40029 y40028) := ⟨h1_⟩
                        have n2_ : Aside0 (w52.heap[gb40001]? = some (.cells #[.int .i64 a0_0, .slice (some ad40003) l0_1.length c0_1, .slice A0_2 l0_2.length c0_2] 44 (0, 0))) := ⟨h2_⟩
                        have n3_ : Aside0 (w52.heap[gb40002]? = some (.cells #[.int .i64 0, .slice none 0 0, .slice none 0 0] 44 (0, 0))) := ⟨h3_⟩
                        have n4_ : Aside0 (Below w.heap.size w w52) := ⟨h4_⟩
                        clear BK40001
                        clear BK40002
                        clear HB
                        clear h0_ h1_ h2_ h3_ h4_
                        have HO40024 := n0_
                        have HO40030 := n1_
                        have BK40001 := n2_
                        have BK40002 := n3_
                        have HB := n4_
                        clear n0_ n1_ n2_ n3_ n4_
                        have hHeld : w52.cell? ⟨gb40001, 0, none⟩ = some (.int .i64 a0_0) ∧ w52.cell? ⟨gb40001, 1, none⟩ = some (.slice (some ad40003) l0_1.length c0_1) ∧ w52.cell? ⟨gb40001, 2, none⟩ = some (.slice A0_2 l0_2.length c0_2) := hS_
                        refine norm_ (a' := ?_) ?_ ?_
                        rotate_left
                        · simp only [putAll, Act.put, List.setIfInBounds_toArray, List.set_cons_zero, List.set_cons_succ]
                          rfl
                        refine one_ (i := 5) (N := some 45) #[true, true, true, true, true, true, true, true, true, false, true, true, false, false, true, false, false, false] rfl rfl (one_of HT_.out (by kernel_rfl)) (by decide) (fun K hK => ?_)
                        refine goes_ Try.func74 (by kernel_rfl) rfl #[.slice (some ad40003) l0_1.length c0_1, .int .i64 a1] (by rfl) rfl rfl (by (try simp only [List.map_toArray, List.map_cons, List.map_nil]); first | done | rfl | (simp only [List.length_drop, List.length_take]; rfl)) ?_
                        with_reducible refine (customsref33_out.calls _ _ l0_1 a1 t40019 _ ?side1 ?side2 A42.out).mono ?_
                        (case side1 => repeat (first | exact (Kd.C_below HR0_1.out HB.out) | (with_reducible refine Kd.C_alloc ?_ _) | (with_reducible refine Kd.C_drewN ?_ _) | (with_reducible refine Kd.C_drew ?_)))
                        (case side2 => exact HC0_1.out)
                        rintro e w53 ⟨v40020, rfl, ho0, hb⟩
                        refine ⟨_, rfl, ?_⟩
                        have n2_ := Aside0.mk (Kd.R_lower (Kd.R_new' (Kd.R_new' ho0 (Kd.R_lt (Kd.R_ext HO40024.out))) (Kd.R_lt (Kd.R_ext HO40030.out))) (below_size (below_extB HB.out)))
                        have HO40021 := n2_
                        replace HO40024 := apR HO40024 hb (Kd.R_base ho0)
                        replace HO40030 := apR HO40030 hb (Kd.R_base ho0)
                        replace BK40001 := mvB BK40001 hb
                        replace BK40002 := mvB BK40002 hb
                        replace HB := mvH HB hb
                        clear n2_
                        (try clear hb)
                        (try clear hb2)
                        (try clear hk)
                        (try clear hi)
                        (try clear ho0)
                        refine hK.out _ _ ⟨(blk_cell BK40001.out 0).trans rfl, (blk_cell BK40001.out 1).trans rfl, (blk_cell BK40001.out 2).trans rfl⟩ (fun hHeld => ?_)
                        clear hK K
                        refine norm_ (a' := ?_) ?_ ?_
                        rotate_left
                        · show Act.put _ (some 45) _ = _
                          simp only [Act.put, List.setIfInBounds_toArray, List.set_cons_zero, List.set_cons_succ, i64_w, i32_w]
                          rfl
                        exact norm_ (by first | (simp only [putAll, Act.put, List.setIfInBounds_toArray, List.set_cons_zero, List.set_cons_succ]; done) | (simp only [putAll, Act.put, List.setIfInBounds_toArray, List.set_cons_zero, List.set_cons_succ]; rfl)) (hJ5_6_11 (v40020, v40023, v40029) _ ⟨hHeld, (Kd.R_ext (Kd.R_mono HO40021.out (fun _ hk => ⟨hk.1.2, hk.2⟩))), (Kd.R_ext (Kd.R_mono HO40024.out (fun _ hk => ⟨hk.2, hk.1⟩))), (Kd.R_ext (Kd.R_mono HO40030.out (fun _ hk => ⟨hk.2, hk.1⟩))), (blk_ext BK40001.out), (blk_ext BK40002.out), (below_extB HB.out)⟩)
                    · skip
                      rintro ⟨v40020, v40029⟩ w51 ⟨hS_, h0_, h1_, h2_, h3_, h4_⟩
                      have n0_ : Aside0 (Kd.R (Kd.int .i64) 3 w51 w.heap.size (fun k_ => some k_ ≠ (v40029 : Value).ownBlock) v40020 t40019) := ⟨h0_⟩
                      have n1_ : Aside0 (Kd.R (Kd.int .i64) 3 w51 w.heap.size (fun k_ => some k_ ≠ (v40020 : Value).ownBlock) v40029 y40028) := ⟨h1_⟩
                      have n2_ : Aside0 (w51.heap[gb40001]? = some (.cells #[.int .i64 a0_0, .slice (some ad40003) l0_1.length c0_1, .slice A0_2 l0_2.length c0_2] 44 (0, 0))) := ⟨h2_⟩
                      have n3_ : Aside0 (w51.heap[gb40002]? = some (.cells #[.int .i64 0, .slice none 0 0, .slice none 0 0] 44 (0, 0))) := ⟨h3_⟩
                      have n4_ : Aside0 (Below w.heap.size w w51) := ⟨h4_⟩
                      clear BK40001
                      clear BK40002
                      clear HB
                      clear h0_ h1_ h2_ h3_ h4_
                      have HO40021 := n0_
                      have HO40030 := n1_
                      have BK40001 := n2_
                      have BK40002 := n3_
                      have HB := n4_
                      clear n0_ n1_ n2_ n3_ n4_
                      have hHeld : w51.cell? ⟨gb40001, 0, none⟩ = some (.int .i64 a0_0) ∧ w51.cell? ⟨gb40001, 1, none⟩ = some (.slice (some ad40003) l0_1.length c0_1) ∧ w51.cell? ⟨gb40001, 2, none⟩ = some (.slice A0_2 l0_2.length c0_2) := hS_
                      refine norm_ (a' := ?_) ?_ ?_
                      rotate_left
                      · simp only [putAll, Act.put, List.setIfInBounds_toArray, List.set_cons_zero, List.set_cons_succ]
                        rfl
                      refine one_ (i := 6) (N := some 46) #[true, true, true, true, true, true, true, true, true, false, true, true, false, false, true, false, false, false] rfl rfl (one_of HT_.out (by kernel_rfl)) (by decide) (fun K hK => ?_)
                      refine Kd.R_lit_step (Kd.int .i64) _ 3 ?hg (N := 46) ?hd (xs := ([] : List Int)) (inner := []) (ok := fun _ => True) (okp := fun _ => True) ?hr ?hp (fun _ hk => hk) trivial (Below.refl _ _) (Nat.le_refl _) (by simp) ?_; (case hd => rfl); (case hg => rfl); (case hr => first | (go_simp; done) | (go_simp; rfl)); (case hp => exact (Reps.none _ _))
                      intro v40023 w52 ho53 hb hg_ hnew_
                      clear hg_ hnew_
                      (first | rw [← Ny40022.out] at ho53 | (simp only [Int.reduceToNat] at ho53; rw [← Ny40022.out] at ho53))
                      have n2_ := Aside0.mk (Kd.R_lower (Kd.R_new' (Kd.R_new' ho53 (Kd.R_lt (Kd.R_ext HO40021.out))) (Kd.R_lt (Kd.R_ext HO40030.out))) (below_size (below_extB HB.out)))
                      have HO40024 := n2_
                      replace HO40021 := apR HO40021 hb (Kd.R_base ho53)
                      replace HO40030 := apR HO40030 hb (Kd.R_base ho53)
                      replace BK40001 := mvB BK40001 hb
                      replace BK40002 := mvB BK40002 hb
                      replace HB := mvH HB hb
                      clear n2_
                      clear hb ho53
                      refine hK.out _ _ ⟨(blk_cell BK40001.out 0).trans rfl, (blk_cell BK40001.out 1).trans rfl, (blk_cell BK40001.out 2).trans rfl⟩ (fun hHeld => ?_)
                      clear hK K
                      refine norm_ (a' := ?_) ?_ ?_
                      rotate_left
                      · show Act.put _ (some 46) _ = _
                        simp only [Act.put, List.setIfInBounds_toArray, List.set_cons_zero, List.set_cons_succ, i64_w, i32_w]
                        rfl
                      exact norm_ (by first | (simp only [putAll, Act.put, List.setIfInBounds_toArray, List.set_cons_zero, List.set_cons_succ]; done) | (simp only [putAll, Act.put, List.setIfInBounds_toArray, List.set_cons_zero, List.set_cons_succ]; rfl)) (hJ5_6_11 (v40020, v40023, v40029) _ ⟨hHeld, (Kd.R_ext (Kd.R_mono HO40021.out (fun _ hk => ⟨hk.2, hk.1⟩))), (Kd.R_ext (Kd.R_mono HO40024.out (fun _ hk => ⟨hk.1.2, hk.2⟩))), (Kd.R_ext HO40030.out), (blk_ext BK40001.out), (blk_ext BK40002.out), (below_extB HB.out)⟩)
                  · skip
                    rintro ⟨v40020, v40023⟩ w51 ⟨hS_, h0_, h1_, h2_, h3_, h4_⟩
                    have n0_ : Aside0 (Kd.R (Kd.int .i64) 3 w51 w.heap.size (fun k_ => some k_ ≠ (v40023 : Value).ownBlock) v40020 t40019) := ⟨h0_⟩
                    have n1_ : Aside0 (Kd.R (Kd.int .i64) 3 w51 w.heap.size (fun k_ => some k_ ≠ (v40020 : Value).ownBlock) v40023 y40022) := ⟨h1_⟩
                    have n2_ : Aside0 (w51.heap[gb40001]? = some (.cells #[.int .i64 a0_0, .slice (some ad40003) l0_1.length c0_1, .slice A0_2 l0_2.length c0_2] 44 (0, 0))) := ⟨h2_⟩
                    have n3_ : Aside0 (w51.heap[gb40002]? = some (.cells #[.int .i64 0, .slice none 0 0, .slice none 0 0] 44 (0, 0))) := ⟨h3_⟩
                    have n4_ : Aside0 (Below w.heap.size w w51) := ⟨h4_⟩
                    clear BK40001
                    clear BK40002
                    clear HB
                    clear h0_ h1_ h2_ h3_ h4_
                    have HO40021 := n0_
                    have HO40024 := n1_
                    have BK40001 := n2_
                    have BK40002 := n3_
                    have HB := n4_
                    clear n0_ n1_ n2_ n3_ n4_
                    have hHeld : w51.cell? ⟨gb40001, 0, none⟩ = some (.int .i64 a0_0) ∧ w51.cell? ⟨gb40001, 1, none⟩ = some (.slice (some ad40003) l0_1.length c0_1) ∧ w51.cell? ⟨gb40001, 2, none⟩ = some (.slice A0_2 l0_2.length c0_2) := hS_
                    refine norm_ (a' := ?_) ?_ ?_
                    rotate_left
                    · simp only [putAll, Act.put, List.setIfInBounds_toArray, List.set_cons_zero, List.set_cons_succ]
                      rfl
                    refine two_ (i := 9) (j := 11) (Ni := some 49) (Nj := some 51) #[true, true, true, true, true, true, true, true, true, true, true, false, false, false, true, false, false, false] #[true, true, true, true, true, true, true, true, true, false, true, true, false, false, true, false, false, false] rfl rfl rfl rfl (two_of HT_.out (by kernel_rfl)) (by decide) (by decide) (fun K hK => ?_) (fun K hK => ?_)
                    · skip
                      refine Kd.R_append_rows_step (Kd.int .i64) (w0 := w) w.heap.size (by rfl) (.tmp 46) (.tmp 48) 42 3 (.int .i64 0) 8 rfl Try.underlying42 info3 rfl (by decide) (by omega) v40023 y40022 l0_2 _ _ _ (fun k_ => some k_ ≠ (v40020 : Value).ownBlock) (fun _ => False) rfl rfl ?aO ?aR (fun _ _ h => h) (fun _ h => h.elim) ?aF ?aB ?aS ?aL ?_
                      (case aR => repeat (first | exact (Kd.C_below HR0_2.out HB.out) | (with_reducible refine Kd.C_alloc ?_ _) | (with_reducible refine Kd.C_drewN ?_ _) | (with_reducible refine Kd.C_drew ?_)))
                      (case aB => exact (below_extB HB.out))
                      (case aF => exact (fun k_ hk => Kd.fresh' (Kd.R_lt (Kd.R_ext HO40021.out)) k_ hk))
                      (case aO => exact (Kd.R_ext HO40024.out))
                      (case aS => exact (below_size (below_extB HB.out)))
                      (case aL => have := LMc43.out; omega)
                      intro v40026 w52 ho hb hg hat
                      rw [← Ny40025.out] at ho
                      have n0_ := Aside0.mk (blk_grown (g := gb40001) (o := .cells #[.int .i64 a0_0, .slice (some ad40003) l0_1.length c0_1, .slice A0_2 l0_2.length c0_2] 44 (0, 0)) (blk_ext BK40001.out) hg (Kd.R_ne HO40024.out BK40001.out (by decide)))
                      have n1_ := Aside0.mk (blk_grown (g := gb40002) (o := .cells #[.int .i64 0, .slice none 0 0, .slice none 0 0] 44 (0, 0)) (blk_ext BK40002.out) hg (Kd.R_ne HO40024.out BK40002.out (by decide)))
                      have n2_ := Aside0.mk (Kd.R_after (ok := (fun _ => True)) (Kd.R_ext (Kd.R_mono HO40021.out (fun _ hk => ⟨trivial, hk⟩))) hg hat)
                      have n3_ := Aside0.mk (hb)
                      have n4_ := Aside0.mk (ho)
                      clear BK40001
                      clear BK40002
                      clear HO40021
                      clear HB
                      clear HO40024
                      have BK40001 := n0_
                      have BK40002 := n1_
                      have HO40021 := n2_
                      have HB := n3_
                      have HO40027 := n4_
                      clear n0_ n1_ n2_ n3_ n4_
                      clear ho hb hg hat
                      refine hK.out _ _ ⟨(blk_cell BK40001.out 0).trans rfl, (blk_cell BK40001.out 1).trans rfl, (blk_cell BK40001.out 2).trans rfl⟩ (fun hHeld => ?_)
                      clear hK K
                      refine norm_ (a' := ?_) ?_ ?_
                      rotate_left
                      · show Act.put _ (some 49) _ = _
                        simp only [Act.put, List.setIfInBounds_toArray, List.set_cons_zero, List.set_cons_succ, i64_w, i32_w]
                        rfl
                      exact norm_ (by first | (simp only [putAll, Act.put, List.setIfInBounds_toArray, List.set_cons_zero, List.set_cons_succ]; done) | (simp only [putAll, Act.put, List.setIfInBounds_toArray, List.set_cons_zero, List.set_cons_succ]; rfl)) (hJ5_6_9 (v40020, v40023, v40026) _ ⟨hHeld, (Kd.R_ext (Kd.R_mono HO40021.out (fun _ hk => hk.2))), (Kd.R_ext HO40027.out), (blk_ext BK40001.out), (blk_ext BK40002.out), (below_extB HB.out)⟩)
                    · skip
                      refine Kd.R_lit_step (Kd.int .i64) _ 3 ?hg (N := 51) ?hd (xs := ([a2] : List Int)) (inner := [.int .i64 a2]) (ok := fun _ => True) (okp := fun _ => True) ?hr ?hp (fun _ hk => hk) trivial (Below.refl _ _) (Nat.le_refl _) (by simp) ?_; (case hd => rfl); (case hg => rfl); (case hr => first | (go_simp; done) | (go_simp; rfl)); (case hp => exact (Reps.one (show Kd.M (Kd.int .i64) _ _ _ a2 [.int .i64 a2] from rfl) (Reps.none _ _)))
                      intro v40029 w52 ho53 hb hg_ hnew_
                      clear hg_ hnew_
                      (first | rw [← Ny40028.out] at ho53 | (simp only [Int.reduceToNat] at ho53; rw [← Ny40028.out] at ho53))
                      have n2_ := Aside0.mk (Kd.R_lower (Kd.R_new' (Kd.R_new' ho53 (Kd.R_lt (Kd.R_ext HO40021.out))) (Kd.R_lt (Kd.R_ext HO40024.out))) (below_size (below_extB HB.out)))
                      have HO40030 := n2_
                      replace HO40021 := apR HO40021 hb (Kd.R_base ho53)
                      replace HO40024 := apR HO40024 hb (Kd.R_base ho53)
                      replace BK40001 := mvB BK40001 hb
                      replace BK40002 := mvB BK40002 hb
                      replace HB := mvH HB hb
                      clear n2_
                      clear hb ho53
                      refine hK.out _ _ ⟨(blk_cell BK40001.out 0).trans rfl, (blk_cell BK40001.out 1).trans rfl, (blk_cell BK40001.out 2).trans rfl⟩ (fun hHeld => ?_)
                      clear hK K
                      refine norm_ (a' := ?_) ?_ ?_
                      rotate_left
                      · show Act.put _ (some 51) _ = _
                        simp only [Act.put, List.setIfInBounds_toArray, List.set_cons_zero, List.set_cons_succ, i64_w, i32_w]
                        rfl
                      exact norm_ (by first | (simp only [putAll, Act.put, List.setIfInBounds_toArray, List.set_cons_zero, List.set_cons_succ]; done) | (simp only [putAll, Act.put, List.setIfInBounds_toArray, List.set_cons_zero, List.set_cons_succ]; rfl)) (hJ5_6_11 (v40020, v40023, v40029) _ ⟨hHeld, (Kd.R_ext HO40021.out), (Kd.R_ext HO40024.out), (Kd.R_ext (Kd.R_mono HO40030.out (fun _ hk => ⟨hk.1.2, hk.2⟩))), (blk_ext BK40001.out), (blk_ext BK40002.out), (below_extB HB.out)⟩)
                · skip
                  rintro ⟨v40020, v40023, v40029⟩ w53 ⟨hS_, h0_, h1_, h2_, h3_, h4_, h5_⟩
                  have n0_ : Aside0 (Kd.R (Kd.int .i64) 3 w53 w.heap.size (fun k_ => some k_ ≠ (v40023 : Value).ownBlock ∧ some k_ ≠ (v40029 : Value).ownBlock) v40020 t40019) := ⟨h0_⟩
                  have n1_ : Aside0 (Kd.R (Kd.int .i64) 3 w53 w.heap.size (fun k_ => some k_ ≠ (v40020 : Value).ownBlock ∧ some k_ ≠ (v40029 : Value).ownBlock) v40023 y40022) := ⟨h1_⟩
                  have n2_ : Aside0 (Kd.R (Kd.int .i64) 3 w53 w.heap.size (fun k_ => some k_ ≠ (v40020 : Value).ownBlock ∧ some k_ ≠ (v40023 : Value).ownBlock) v40029 y40028) := ⟨h2_⟩
                  have n3_ : Aside0 (w53.heap[gb40001]? = some (.cells #[.int .i64 a0_0, .slice (some ad40003) l0_1.length c0_1, .slice A0_2 l0_2.length c0_2] 44 (0, 0))) := ⟨h3_⟩
                  have n4_ : Aside0 (w53.heap[gb40002]? = some (.cells #[.int .i64 0, .slice none 0 0, .slice none 0 0] 44 (0, 0))) := ⟨h4_⟩
                  have n5_ : Aside0 (Below w.heap.size w w53) := ⟨h5_⟩
                  clear BK40001
                  clear BK40002
                  clear HB
                  clear h0_ h1_ h2_ h3_ h4_ h5_
                  have HO40021 := n0_
                  have HO40024 := n1_
                  have HO40030 := n2_
                  have BK40001 := n3_
                  have BK40002 := n4_
                  have HB := n5_
                  clear n0_ n1_ n2_ n3_ n4_ n5_
                  have hHeld : w53.cell? ⟨gb40001, 0, none⟩ = some (.int .i64 a0_0) ∧ w53.cell? ⟨gb40001, 1, none⟩ = some (.slice (some ad40003) l0_1.length c0_1) ∧ w53.cell? ⟨gb40001, 2, none⟩ = some (.slice A0_2 l0_2.length c0_2) := hS_
                  refine norm_ (a' := ?_) ?_ ?_
                  rotate_left
                  · simp only [putAll, Act.put, List.setIfInBounds_toArray, List.set_cons_zero, List.set_cons_succ]
                    rfl
                  refine one_ (i := 9) (N := some 49) #[true, true, true, true, true, true, true, true, true, true, true, true, false, false, true, false, false, false] rfl rfl (one_of HT_.out (by kernel_rfl)) (by decide) (fun K hK => ?_)
                  refine Kd.R_append_rows_step (Kd.int .i64) (w0 := w) w.heap.size (by rfl) (.tmp 46) (.tmp 48) 42 3 (.int .i64 0) 8 rfl Try.underlying42 info3 rfl (by decide) (by omega) v40023 y40022 l0_2 _ _ _ (fun k_ => some k_ ≠ (v40020 : Value).ownBlock ∧ some k_ ≠ (v40029 : Value).ownBlock) (fun _ => False) rfl rfl ?aO ?aR (fun _ _ h => h) (fun _ h => h.elim) ?aF ?aB ?aS ?aL ?_
                  (case aR => repeat (first | exact (Kd.C_below HR0_2.out HB.out) | (with_reducible refine Kd.C_alloc ?_ _) | (with_reducible refine Kd.C_drewN ?_ _) | (with_reducible refine Kd.C_drew ?_)))
                  (case aB => exact (below_extB HB.out))
                  (case aF => exact (fun k_ hk => ⟨Kd.fresh' (Kd.R_lt (Kd.R_ext HO40021.out)) k_ hk, Kd.fresh' (Kd.R_lt (Kd.R_ext HO40030.out)) k_ hk⟩))
                  (case aO => exact (Kd.R_ext HO40024.out))
                  (case aS => exact (below_size (below_extB HB.out)))
                  (case aL => have := LMc43.out; omega)
                  intro v40026 w54 ho hb hg hat
                  rw [← Ny40025.out] at ho
                  have n0_ := Aside0.mk (blk_grown (g := gb40001) (o := .cells #[.int .i64 a0_0, .slice (some ad40003) l0_1.length c0_1, .slice A0_2 l0_2.length c0_2] 44 (0, 0)) (blk_ext BK40001.out) hg (Kd.R_ne HO40024.out BK40001.out (by decide)))
                  have n1_ := Aside0.mk (blk_grown (g := gb40002) (o := .cells #[.int .i64 0, .slice none 0 0, .slice none 0 0] 44 (0, 0)) (blk_ext BK40002.out) hg (Kd.R_ne HO40024.out BK40002.out (by decide)))
                  have n2_ := Aside0.mk (Kd.R_after (ok := (fun k_ => some k_ ≠ (v40029 : Value).ownBlock)) (Kd.R_ext (Kd.R_mono HO40021.out (fun _ hk => ⟨hk.2, hk.1⟩))) hg hat)
                  have n3_ := Aside0.mk (Kd.R_after (ok := (fun k_ => some k_ ≠ (v40020 : Value).ownBlock)) (Kd.R_ext HO40030.out) hg hat)
                  have n4_ := Aside0.mk (hb)
                  have n5_ := Aside0.mk (ho)
                  clear BK40001
                  clear BK40002
                  clear HO40021
                  clear HO40030
                  clear HB
                  clear HO40024
                  have BK40001 := n0_
                  have BK40002 := n1_
                  have HO40021 := n2_
                  have HO40030 := n3_
                  have HB := n4_
                  have HO40027 := n5_
                  clear n0_ n1_ n2_ n3_ n4_ n5_
                  clear ho hb hg hat
                  refine hK.out _ _ ⟨(blk_cell BK40001.out 0).trans rfl, (blk_cell BK40001.out 1).trans rfl, (blk_cell BK40001.out 2).trans rfl⟩ (fun hHeld => ?_)
                  clear hK K
                  refine norm_ (a' := ?_) ?_ ?_
                  rotate_left
                  · show Act.put _ (some 49) _ = _
                    simp only [Act.put, List.setIfInBounds_toArray, List.set_cons_zero, List.set_cons_succ, i64_w, i32_w]
                    rfl
                  exact norm_ (by first | (simp only [putAll, Act.put, List.setIfInBounds_toArray, List.set_cons_zero, List.set_cons_succ]; done) | (simp only [putAll, Act.put, List.setIfInBounds_toArray, List.set_cons_zero, List.set_cons_succ]; rfl)) (hJ5_6_9_11 (v40020, v40023, v40026, v40029) _ ⟨hHeld, (Kd.R_ext (Kd.R_mono HO40021.out (fun _ hk => ⟨hk.2, hk.1⟩))), (Kd.R_ext HO40027.out), (Kd.R_ext HO40030.out), (blk_ext BK40001.out), (blk_ext BK40002.out), (below_extB HB.out)⟩)
              · skip
                rintro ⟨v40020, v40023, v40026⟩ w52 ⟨hS_, h0_, h1_, h2_, h3_, h4_⟩
                have n0_ : Aside0 (Kd.R (Kd.int .i64) 3 w52 w.heap.size (fun k_ => some k_ ≠ (v40026 : Value).ownBlock) v40020 t40019) := ⟨h0_⟩
                have n1_ : Aside0 (Kd.R (Kd.int .i64) 3 w52 w.heap.size (fun k_ => some k_ ≠ (v40020 : Value).ownBlock) v40026 y40025) := ⟨h1_⟩
                have n2_ : Aside0 (w52.heap[gb40001]? = some (.cells #[.int .i64 a0_0, .slice (some ad40003) l0_1.length c0_1, .slice A0_2 l0_2.length c0_2] 44 (0, 0))) := ⟨h2_⟩
                have n3_ : Aside0 (w52.heap[gb40002]? = some (.cells #[.int .i64 0, .slice none 0 0, .slice none 0 0] 44 (0, 0))) := ⟨h3_⟩
                have n4_ : Aside0 (Below w.heap.size w w52) := ⟨h4_⟩
                clear BK40001
                clear BK40002
                clear HB
                clear h0_ h1_ h2_ h3_ h4_
                have HO40021 := n0_
                have HO40027 := n1_
                have BK40001 := n2_
                have BK40002 := n3_
                have HB := n4_
                clear n0_ n1_ n2_ n3_ n4_
                have hHeld : w52.cell? ⟨gb40001, 0, none⟩ = some (.int .i64 a0_0) ∧ w52.cell? ⟨gb40001, 1, none⟩ = some (.slice (some ad40003) l0_1.length c0_1) ∧ w52.cell? ⟨gb40001, 2, none⟩ = some (.slice A0_2 l0_2.length c0_2) := hS_
                refine norm_ (a' := ?_) ?_ ?_
                rotate_left
                · simp only [putAll, Act.put, List.setIfInBounds_toArray, List.set_cons_zero, List.set_cons_succ]
                  rfl
                refine one_ (i := 11) (N := some 51) #[true, true, true, true, true, true, true, true, true, true, true, true, false, false, true, false, false, false] rfl rfl (one_of HT_.out (by kernel_rfl)) (by decide) (fun K hK => ?_)
                refine Kd.R_lit_step (Kd.int .i64) _ 3 ?hg (N := 51) ?hd (xs := ([a2] : List Int)) (inner := [.int .i64 a2]) (ok := fun _ => True) (okp := fun _ => True) ?hr ?hp (fun _ hk => hk) trivial (Below.refl _ _) (Nat.le_refl _) (by simp) ?_; (case hd => rfl); (case hg => rfl); (case hr => first | (go_simp; done) | (go_simp; rfl)); (case hp => exact (Reps.one (show Kd.M (Kd.int .i64) _ _ _ a2 [.int .i64 a2] from rfl) (Reps.none _ _)))
                intro v40029 w53 ho54 hb hg_ hnew_
                clear hg_ hnew_
                (first | rw [← Ny40028.out] at ho54 | (simp only [Int.reduceToNat] at ho54; rw [← Ny40028.out] at ho54))
                have n2_ := Aside0.mk (Kd.R_lower (Kd.R_new' (Kd.R_new' ho54 (Kd.R_lt (Kd.R_ext HO40021.out))) (Kd.R_lt (Kd.R_ext HO40027.out))) (below_size (below_extB HB.out)))
                have HO40030 := n2_
                replace HO40021 := apR HO40021 hb (Kd.R_base ho54)
                replace HO40027 := apR HO40027 hb (Kd.R_base ho54)
                replace BK40001 := mvB BK40001 hb
                replace BK40002 := mvB BK40002 hb
                replace HB := mvH HB hb
                clear n2_
                clear hb ho54
                refine hK.out _ _ ⟨(blk_cell BK40001.out 0).trans rfl, (blk_cell BK40001.out 1).trans rfl, (blk_cell BK40001.out 2).trans rfl⟩ (fun hHeld => ?_)
                clear hK K
                refine norm_ (a' := ?_) ?_ ?_
                rotate_left
                · show Act.put _ (some 51) _ = _
                  simp only [Act.put, List.setIfInBounds_toArray, List.set_cons_zero, List.set_cons_succ, i64_w, i32_w]
                  rfl
                exact norm_ (by first | (simp only [putAll, Act.put, List.setIfInBounds_toArray, List.set_cons_zero, List.set_cons_succ]; done) | (simp only [putAll, Act.put, List.setIfInBounds_toArray, List.set_cons_zero, List.set_cons_succ]; rfl)) (hJ5_6_9_11 (v40020, v40023, v40026, v40029) _ ⟨hHeld, (Kd.R_ext HO40021.out), (Kd.R_ext HO40027.out), (Kd.R_ext (Kd.R_mono HO40030.out (fun _ hk => ⟨hk.1.2, hk.2⟩))), (blk_ext BK40001.out), (blk_ext BK40002.out), (below_extB HB.out)⟩)
            rintro ⟨v40020, v40023, v40026, v40029⟩ w54 ⟨hS_, h0_, h1_, h2_, h3_, h4_, h5_⟩
            have n0_ : Aside0 (Kd.R (Kd.int .i64) 3 w54 w.heap.size (fun k_ => some k_ ≠ (v40026 : Value).ownBlock ∧ some k_ ≠ (v40029 : Value).ownBlock) v40020 t40019) := ⟨h0_⟩
            have n1_ : Aside0 (Kd.R (Kd.int .i64) 3 w54 w.heap.size (fun k_ => some k_ ≠ (v40020 : Value).ownBlock ∧ some k_ ≠ (v40029 : Value).ownBlock) v40026 y40025) := ⟨h1_⟩
            have n2_ : Aside0 (Kd.R (Kd.int .i64) 3 w54 w.heap.size (fun k_ => some k_ ≠ (v40020 : Value).ownBlock ∧ some k_ ≠ (v40026 : Value).ownBlock) v40029 y40028) := ⟨h2_⟩
            have n3_ : Aside0 (w54.heap[gb40001]? = some (.cells #[.int .i64 a0_0, .slice (some ad40003) l0_1.length c0_1, .slice A0_2 l0_2.length c0_2] 44 (0, 0))) := ⟨h3_⟩
            have n4_ : Aside0 (w54.heap[gb40002]? = some (.cells #[.int .i64 0, .slice none 0 0, .slice none 0 0] 44 (0, 0))) := ⟨h4_⟩
            have n5_ : Aside0 (Below w.heap.size w w54) := ⟨h5_⟩
            clear BK40001
            clear BK40002
            clear HB
            clear h0_ h1_ h2_ h3_ h4_ h5_
            have HO40021 := n0_
            have HO40027 := n1_
            have HO40030 := n2_
            have BK40001 := n3_
            have BK40002 := n4_
            have HB := n5_
            clear n0_ n1_ n2_ n3_ n4_ n5_
            have hHeld : w54.cell? ⟨gb40001, 0, none⟩ = some (.int .i64 a0_0) ∧ w54.cell? ⟨gb40001, 1, none⟩ = some (.slice (some ad40003) l0_1.length c0_1) ∧ w54.cell? ⟨gb40001, 2, none⟩ = some (.slice A0_2 l0_2.length c0_2) := hS_
            obtain ⟨Ao56, co56, eo56⟩ := Kd.R_slice HO40030.out
            (first | subst eo56 | (injection eo56 with f1_ f2_ f3_; have f4_ := f1_.symm; have f5_ := f3_.symm; clear f1_ f2_ f3_; subst f4_; subst f5_))
            refine norm_ (a' := ?_) ?_ ?_
            rotate_left
            · simp only [putAll, Act.put, List.setIfInBounds_toArray, List.set_cons_zero, List.set_cons_succ]
              rfl
            refine one_ (i := 12) (N := some 52) #[true, true, true, true, true, true, true, true, true, true, true, true, true, false, true, false, false, false] rfl rfl (one_of HT_.out (by kernel_rfl)) (by decide) (fun K hK => ?_)
            refine Kd.R_append_rows_step (Kd.int .i64) (w0 := w) w.heap.size (by rfl) (.tmp 49) (.tmp 51) 42 3 (.int .i64 0) 8 rfl Try.underlying42 info3 rfl (by decide) (by omega) v40026 y40025 y40028 _ _ _ (fun k_ => some k_ ≠ (v40020 : Value).ownBlock ∧ some k_ ≠ (.slice Ao56 y40028.length co56 : Value).ownBlock) (fun _ => False) rfl rfl ?aO ?aR (fun _ _ h => h) (fun _ h => h.elim) ?aF ?aB ?aS ?aL ?_
            (case aR => exact Kd.C_ext (Kd.R_reads' HO40030.out).2.2)
            (case aB => exact (below_extB HB.out))
            (case aF => exact (fun k_ hk => ⟨Kd.fresh' (Kd.R_lt (Kd.R_ext HO40021.out)) k_ hk, Kd.fresh' (Kd.R_lt (Kd.R_ext HO40030.out)) k_ hk⟩))
            (case aO => exact (Kd.R_ext HO40027.out))
            (case aS => exact (below_size (below_extB HB.out)))
            (case aL => have := LMc44.out; omega)
            intro v40032 w55 ho hb hg hat
            rw [← Ny40031.out] at ho
            have n0_ := Aside0.mk (blk_grown (g := gb40001) (o := .cells #[.int .i64 a0_0, .slice (some ad40003) l0_1.length c0_1, .slice A0_2 l0_2.length c0_2] 44 (0, 0)) (blk_ext BK40001.out) hg (Kd.R_ne HO40027.out BK40001.out (by decide)))
            have n1_ := Aside0.mk (blk_grown (g := gb40002) (o := .cells #[.int .i64 0, .slice none 0 0, .slice none 0 0] 44 (0, 0)) (blk_ext BK40002.out) hg (Kd.R_ne HO40027.out BK40002.out (by decide)))
            have n2_ := Aside0.mk (Kd.R_after (ok := (fun k_ => some k_ ≠ (.slice Ao56 y40028.length co56 : Value).ownBlock)) (Kd.R_ext (Kd.R_mono HO40021.out (fun _ hk => ⟨hk.2, hk.1⟩))) hg hat)
            have n3_ := Aside0.mk (Kd.R_after (ok := (fun k_ => some k_ ≠ (v40020 : Value).ownBlock)) (Kd.R_ext HO40030.out) hg hat)
            have n4_ := Aside0.mk (hb)
            have n5_ := Aside0.mk (ho)
            clear BK40001
            clear BK40002
            clear HO40021
            clear HO40030
            clear HB
            clear HO40027
            have BK40001 := n0_
            have BK40002 := n1_
            have HO40021 := n2_
            have HO40030 := n3_
            have HB := n4_
            have HO40033 := n5_
            clear n0_ n1_ n2_ n3_ n4_ n5_
            clear ho hb hg hat
            obtain ⟨Ao57, co57, eo57⟩ := Kd.R_slice HO40033.out
            (first | subst eo57 | (injection eo57 with f1_ f2_ f3_; have f4_ := f1_.symm; have f5_ := f3_.symm; clear f1_ f2_ f3_; subst f4_; subst f5_))
            obtain ⟨Ao58, co58, eo58⟩ := Kd.R_slice HO40021.out
            (first | subst eo58 | (injection eo58 with f1_ f2_ f3_; have f4_ := f1_.symm; have f5_ := f3_.symm; clear f1_ f2_ f3_; subst f4_; subst f5_))
            refine hK.out _ _ ⟨(blk_cell BK40001.out 0).trans rfl, (blk_cell BK40001.out 1).trans rfl, (blk_cell BK40001.out 2).trans rfl⟩ (fun hHeld => ?_)
            clear hK K
            refine norm_ (a' := ?_) ?_ ?_
            rotate_left
            · show Act.put _ (some 52) _ = _
              simp only [Act.put, List.setIfInBounds_toArray, List.set_cons_zero, List.set_cons_succ, i64_w, i32_w]
              rfl
            refine pure_ (i := 13) (N := some 53) (v := ?_) (a' := ?_) #[true, true, true, true, true, true, true, true, true, true, true, true, true, true, true, false, false, false] rfl rfl (any_of HT_.out (by kernel_rfl)) (fun _ _ _ h => h) (Or.inl ⟨by rfl, ?_⟩) ?_ ?_
            rotate_left
            · intro w'
              go_simp
              with_reducible rfl
            rotate_left
            · simp only [Act.put, List.setIfInBounds_toArray, List.set_cons_zero, List.set_cons_succ, i64_w, i32_w]
              rfl
            refine one_ (i := 15) (N := none) #[true, true, true, true, true, true, true, true, true, true, true, true, true, true, true, true, false, false] rfl rfl (one_of HT_.out (by kernel_rfl)) (by decide) (fun K hK => ?_)
            have hs59 : w55.cell? ⟨gb40002, 0, none⟩ = some (.int .i64 0) := (blk_cell BK40002.out 0).trans rfl
            have hfs59 := blk_frozen BK40002.out 0
            have hns59_0 := NB40001_40002.out
            have hms59_0 := NB40002_40001.out
            have hs60 : w55.cell? ⟨gb40002, 1, none⟩ = some (.slice none 0 0) := (blk_cell BK40002.out 1).trans rfl
            have hfs60 := blk_frozen BK40002.out 1
            have hns60_0 := NB40001_40002.out
            have hms60_0 := NB40002_40001.out
            have hs61 : w55.cell? ⟨gb40002, 2, none⟩ = some (.slice none 0 0) := (blk_cell BK40002.out 2).trans rfl
            have hfs61 := blk_frozen BK40002.out 2
            have hns61_0 := NB40001_40002.out
            have hms61_0 := NB40002_40001.out
            refine skip_ (w1 := ?_) (by rfl) rfl ?_ ?_
            rotate_left
            · go_simp
              rfl
            refine hK.out _ _ ⟨((cell_far (p := ⟨gb40002, _, none⟩) NB40001_40002.out _).trans (((cell_far (p := ⟨gb40002, _, none⟩) NB40001_40002.out _).trans (((cell_far (p := ⟨gb40002, _, none⟩) NB40001_40002.out _).trans (hHeld.1)))))), ((cell_far (p := ⟨gb40002, _, none⟩) NB40001_40002.out _).trans (((cell_far (p := ⟨gb40002, _, none⟩) NB40001_40002.out _).trans (((cell_far (p := ⟨gb40002, _, none⟩) NB40001_40002.out _).trans (hHeld.2.1)))))), ((cell_far (p := ⟨gb40002, _, none⟩) NB40001_40002.out _).trans (((cell_far (p := ⟨gb40002, _, none⟩) NB40001_40002.out _).trans (((cell_far (p := ⟨gb40002, _, none⟩) NB40001_40002.out _).trans (hHeld.2.2))))))⟩ (fun hHeld => ?_)
            clear hK K
            refine pure_ (i := 16) (N := some 7) (v := ?_) (a' := ?_) #[true, true, true, true, true, true, true, true, true, true, true, true, true, true, true, true, true, false] rfl rfl (any_of HT_.out (by kernel_rfl)) (fun _ _ _ h => h) (Or.inl ⟨by rfl, ?_⟩) ?_ ?_
            rotate_left
            · intro w'
              go_simp
              with_reducible rfl
            rotate_left
            · simp only [Act.put, List.setIfInBounds_toArray, List.set_cons_zero, List.set_cons_succ, i64_w, i32_w]
              rfl
            refine pure_ (i := 17) (N := some 8) (v := ?_) (a' := ?_) #[true, true, true, true, true, true, true, true, true, true, true, true, true, true, true, true, true, true] rfl rfl (any_of HT_.out (by kernel_rfl)) (fun _ _ _ h => h) (Or.inl ⟨by rfl, ?_⟩) ?_ ?_
            rotate_left
            · intro w'
              go_simp
              with_reducible rfl
            rotate_left
            · simp only [Act.put, List.setIfInBounds_toArray, List.set_cons_zero, List.set_cons_succ, i64_w, i32_w]
              rfl
            refine done_ (done_of HT_.out (by kernel_rfl)) ?_
            try go_wp2
            refine bodyPost_ret (results_ctt rfl _ _ gb40002 44 #[.int .i64 a0_0, .slice Ao58 t40019.length co58, .slice Ao57 y40031.length co57] (0, 0) _ rfl (by (with_reducible repeat (first | refine blk_drewN ?_ _ | refine blk_drew ?_ | refine blk_alloc ?_ _)); refine blk_put (cs := #[.int .i64 a0_0, .slice Ao58 t40019.length co58, .slice none 0 0]) ?_ 2 _ rfl; (with_reducible repeat (first | refine blk_drewN ?_ _ | refine blk_drew ?_ | refine blk_alloc ?_ _)); refine blk_put (cs := #[.int .i64 a0_0, .slice none 0 0, .slice none 0 0]) ?_ 1 _ rfl; (with_reducible repeat (first | refine blk_drewN ?_ _ | refine blk_drew ?_ | refine blk_alloc ?_ _)); refine blk_put (cs := #[.int .i64 0, .slice none 0 0, .slice none 0 0]) ?_ 0 _ rfl; exact blk_ext BK40002.out) Try.underlying44 rfl (by kernel_rfl)) rfl ?_
            exact ⟨_, _, by first | rfl | (simp [errW_none, errW_some] <;> rfl) | (simp [*, errW_none, errW_some] <;> rfl), Kd.R_ext (Kd.R_mono (Kd.R_far (p := ⟨gb40002, 2, none⟩) (Kd.R_far (p := ⟨gb40002, 1, none⟩) (Kd.R_far (p := ⟨gb40002, 0, none⟩) (Kd.R_types HO40021.out BK40002.out (by decide)) (fun _ hk => hk.2) (.int .i64 a0_0)) (fun _ hk => hk.2) (.slice Ao58 t40019.length co58)) (fun _ hk => hk.2) (.slice Ao57 y40031.length co57)) (fun _ hk => hk.1.2)), Kd.R_ext (Kd.R_mono (Kd.R_far (p := ⟨gb40002, 2, none⟩) (Kd.R_far (p := ⟨gb40002, 1, none⟩) (Kd.R_far (p := ⟨gb40002, 0, none⟩) (Kd.R_types HO40033.out BK40002.out (by decide)) (fun _ hk => hk.2) (.int .i64 a0_0)) (fun _ hk => hk.2) (.slice Ao58 t40019.length co58)) (fun _ hk => hk.2) (.slice Ao57 y40031.length co57)) (fun _ hk => hk.1.1)), below_extB HB.out⟩
        · rw [if_neg c19] at H
          exact absurd H (by simp)

end Go.Proofs.Ytfljnggpnndmkaa.Z
