/- Written by a program of this session: each Go function as a plain Lean function, and that the machine's call does what it says. Conditions: none but those each theorem states. -/
import Derived.Test.YtfljnggpnndmkaaZ0
namespace Go.Proofs.Ytfljnggpnndmkaa.Z
open Go.RowKit Go.Proofs.YtfljnggpnndmkaaW.PrintWords Go.Proofs.YtfljnggpnndmkaaW.PrintLast Go.Proofs.YtfljnggpnndmkaaW.PrintMore
attribute [local go_sem] max2_int min2_int max_two min_two max_three min_three max_four min_four   -- for this text's walks alone
set_option linter.unusedVariables false
set_option linter.unusedSimpArgs false

/-! ### customsref33_Transmit: function 38 -/
mutual
def customsref33_Transmit.j0 : Nat → Int → Bool → Int → List Int → List Int → Option (Int × List Int × List Int × Int)
  | 0, _, _, _, _, _ => none
  | k + 1, x1, x20, x38002000, x38002001, x38002002 => if x20 = true then (some (0, ([] : List Int), ([] : List Int), 2)) else (if (wrap64 (x1 - x38002000)) > (wrap64 (1000 - (x38002001.length : Int))) then (some (0, ([] : List Int), ([] : List Int), 8)) else ((some (([] : List Int) : List Int)).bind fun y38003 => (if y38003.length + x38002001.length < 17592186044416 then (customsref33_Transmit.l0 k x1 (y38003 ++ x38002001) (wrap64 (x38002000 + 1)) x38002000 x38002001 x38002002) else (none))))
def customsref33_Transmit.l0 : Nat → Int → List Int → Int → Int → List Int → List Int → Option (Int × List Int × List Int × Int)
  | 0, _, _, _, _, _, _ => none
  | k + 1, x1, x6, x7, x38002000, x38002001, x38002002 => if x7 ≤ x1 then (if x6.length < 17592186044416 then (customsref33_Transmit.l0 k x1 (x6 ++ [x7]) (wrap64 (x7 + 1)) x38002000 x38002001 x38002002) else (none)) else (some (x38002000, x6, x38002002, 0))
end
def customsref33_Transmit.f (k : Nat) (a0_0 : Int) (l0_1 : List Int) (l0_2 : List Int) (a1 : Int) : Option (Int × List Int × List Int × Int) := if a0_0 < 0 then (customsref33_Transmit.j0 k a1 true a0_0 l0_1 l0_2) else (if a1 < a0_0 then (customsref33_Transmit.j0 k a1 true a0_0 l0_1 l0_2) else (customsref33_Transmit.j0 k a1 (decide (a1 > 1000000)) a0_0 l0_1 l0_2))
theorem customsref33_Transmit.mono_l : ∀ k, (∀ y0 y1 y2 y3 y4, LeO (customsref33_Transmit.j0 k y0 y1 y2 y3 y4) (customsref33_Transmit.j0 (k + 1) y0 y1 y2 y3 y4)) ∧ (∀ y0 y1 y2 y3 y4 y5, LeO (customsref33_Transmit.l0 k y0 y1 y2 y3 y4 y5) (customsref33_Transmit.l0 (k + 1) y0 y1 y2 y3 y4 y5))
  | 0 => ⟨fun _ _ _ _ _ r h => by simp [customsref33_Transmit.j0] at h, fun _ _ _ _ _ _ r h => by simp [customsref33_Transmit.l0] at h⟩
  | k + 1 => by
    obtain ⟨ih0, ih1⟩ := customsref33_Transmit.mono_l k
    refine ⟨?_, ?_⟩
    · intro y0 y1 y2 y3 y4
      unfold customsref33_Transmit.j0
      repeat' first
      | (with_reducible exact ih0 _ _ _ _ _)
      | (with_reducible exact ih1 _ _ _ _ _ _)
      | (with_reducible exact LeO.refl _)
      | (with_reducible exact LeO.none _)
      | (with_reducible refine LeO.ite ?_ ?_)
      | (with_reducible refine LeO.bind ?_ (fun _ => ?_))
      | exact ih0 _ _ _ _ _
      | exact ih1 _ _ _ _ _ _
      | exact LeO.none _
      | refine LeO.ite ?_ ?_
      | refine LeO.bind ?_ (fun _ => ?_)
    · intro y0 y1 y2 y3 y4 y5
      unfold customsref33_Transmit.l0
      repeat' first
      | (with_reducible exact ih0 _ _ _ _ _)
      | (with_reducible exact ih1 _ _ _ _ _ _)
      | (with_reducible exact LeO.refl _)
      | (with_reducible exact LeO.none _)
      | (with_reducible refine LeO.ite ?_ ?_)
      | (with_reducible refine LeO.bind ?_ (fun _ => ?_))
      | exact ih0 _ _ _ _ _
      | exact ih1 _ _ _ _ _ _
      | exact LeO.none _
      | refine LeO.ite ?_ ?_
      | refine LeO.bind ?_ (fun _ => ?_)
theorem customsref33_Transmit.mono : ∀ a0 a1 a2 a3 k, LeO (customsref33_Transmit.f k a0 a1 a2 a3) (customsref33_Transmit.f (k + 1) a0 a1 a2 a3) := by
  intro a0 a1 a2 a3 k
  obtain ⟨ih0, ih1⟩ := customsref33_Transmit.mono_l k
  unfold customsref33_Transmit.f
  repeat' first
      | (with_reducible exact ih0 _ _ _ _ _)
      | (with_reducible exact ih1 _ _ _ _ _ _)
      | (with_reducible exact LeO.refl _)
      | (with_reducible exact LeO.none _)
      | (with_reducible refine LeO.ite ?_ ?_)
      | (with_reducible refine LeO.bind ?_ (fun _ => ?_))
      | exact ih0 _ _ _ _ _
      | exact ih1 _ _ _ _ _ _
      | exact LeO.none _
      | refine LeO.ite ?_ ?_
      | refine LeO.bind ?_ (fun _ => ?_)
set_option maxHeartbeats 8000000 in
set_option maxRecDepth 100000 in
theorem customsref33_Transmit.calls (k : Nat) (a0_0 : Int) (A0_1 : Option Addr) (c0_1 : Nat) (l0_1 : List Int) (P0_2_ : Nat → Prop) (A0_2 : Option Addr) (c0_2 : Nat) (l0_2 : List Int) (a1 : Int) (r1 : Int) (r2 : List Int) (r3 : List Int) (r4 : Int) (w : World) (hr0_1 : Kd.C (Kd.int .i64) w A0_1 l0_1.length l0_1) (hc0_1 : l0_1.length ≤ c0_1) (hs0_2 : Kd.V (Kd.int .i64) 3 w w.heap.size (fun k_ => P0_2_ k_) (.slice A0_2 l0_2.length c0_2) l0_2) (h : customsref33_Transmit.f k a0_0 l0_1 l0_2 a1 = some (r1, r2, r3, r4)) :
    Calls Try.prog 38 #[.agg #[.int .i64 a0_0, .slice A0_1 l0_1.length c0_1, .slice A0_2 l0_2.length c0_2], .int .i64 a1] w fun e w' => ∃ v1_ v2_ : Value, e = .returned (.tuple #[.agg #[.int .i64 r1, v1_, v2_], .int .i64 r4]) ∧ Kd.R (Kd.int .i64) 3 w' w.heap.size (fun k_ => (w.heap.size ≤ k_)) v1_ r2 ∧ Kd.V (Kd.int .i64) 3 w' w.heap.size (fun k_ => (P0_2_ k_ ∨ w.heap.size ≤ k_) ∧ some k_ ≠ (v1_ : Value).ownBlock) v2_ r3 ∧ Below w.heap.size w w' := by
  have hu44 := Try.underlying44
  have HR0_1 := Aside0.mk hr0_1
  have HC0_1 := Aside0.mk hc0_1
  clear hr0_1 hc0_1
  have HO0_2 := Aside0.mk (show Kd.V (Kd.int .i64) 3 w w.heap.size (fun k_ => (P0_2_ k_ ∨ w.heap.size ≤ k_)) (.slice A0_2 l0_2.length c0_2) l0_2 from Kd.V_mono hs0_2 (fun k_ hk => .inl hk))
  have HB := Aside0.mk (Below.refl w.heap.size w)
  have H : (if a0_0 < 0 then (customsref33_Transmit.j0 k a1 true a0_0 l0_1 l0_2) else (if a1 < a0_0 then (customsref33_Transmit.j0 k a1 true a0_0 l0_1 l0_2) else (customsref33_Transmit.j0 k a1 (decide (a1 > 1000000)) a0_0 l0_1 l0_2))) = some (r1, r2, r3, r4) := h
  clear h
  have HC3 := Aside0.mk H
  clear H
  go_enter Try.func38, Try.ntmps38
  go_upto_region 1 with (first | ((with_reducible refine gate_dst (N := 2) rfl ?_); refine box_event ?hg (N := 2) ?hd (cs := #[.int .i64 a0_0, .slice A0_1 l0_1.length c0_1, .slice A0_2 l0_2.length c0_2]) (t := 44) ?hr ?_; (case hd => rfl); (case hg => rfl); (case hr => first | (go_simp; done) | (go_simp; rfl)); intro gb38001 hg w4 hbox hb; have n2_ := Aside0.mk (hbox); have n3_ := Aside0.mk ((by rw [hg]; exact (below_size (below_ext HB.out)) : w.heap.size ≤ gb38001)); have n4_ := Aside0.mk ((by rw [hg]; exact (below_size (below_ext HB.out)) : w.heap.size ≤ gb38001)); have BK38001 := n2_; have GW38001 := n3_; have GE38001 := n4_; have GI38001 := GE_.mk GE38001.out; replace HO0_2 := awV HO0_2 hb gb38001 hg; replace HB := mvH HB hb; clear n2_ n3_ n4_; clear hb hbox hg) | ((with_reducible refine gate_dst (N := 4) rfl ?_); refine box_event ?hg (N := 4) ?hd (cs := #[.int .i64 0, .slice none 0 0, .slice none 0 0]) (t := 44) ?hr ?_; (case hd => rfl); (case hg => rfl); (case hr => first | (go_simp; done) | (go_simp; rfl)); intro gb38002 hg w5 hbox hb; have n3_ := Aside0.mk (hbox); have n4_ := Aside0.mk ((by rw [hg]; exact (below_size (below_extB HB.out)) : w.heap.size ≤ gb38002)); have n5_ := Aside0.mk ((by rw [hg]; exact (below_size (below_extB HB.out)) : w.heap.size ≤ gb38002)); have n6_ := Aside0.mk ((by rw [hg]; exact Nat.ne_of_lt (blk_lt (blk_ext BK38001.out)) : gb38001 ≠ gb38002)); have n7_ := Aside0.mk ((by rw [hg]; exact Nat.ne_of_gt (blk_lt (blk_ext BK38001.out)) : gb38002 ≠ gb38001)); have BK38002 := n3_; have GW38002 := n4_; have GE38002 := n5_; have GI38002 := GE_.mk GE38002.out; have NB38001_38002 := n6_; have NB38002_38001 := n7_; replace HO0_2 := awV HO0_2 hb gb38002 hg; replace BK38001 := mvB BK38001 hb; replace HB := mvH HB hb; clear n3_ n4_ n5_ n6_ n7_; clear hb hbox hg))
  (try simp only [Act.put, List.setIfInBounds_toArray, List.set_cons_zero, List.set_cons_succ])
  go_cut [20] (fun v20 wc => ∃ (kq : Nat) (x20_2 : Bool), v20 = .bool x20_2 ∧ Aside0 (customsref33_Transmit.j0 kq a1 x20_2 a0_0 l0_1 l0_2 = some (r1, r2, r3, r4)) ∧ Aside0 (kq ≤ k) ∧ Aside0 (Kd.V (Kd.int .i64) 3 wc w.heap.size (fun k_ => (P0_2_ k_ ∨ w.heap.size ≤ k_) ∧ k_ ≠ gb38001 ∧ k_ ≠ gb38002) (.slice A0_2 l0_2.length c0_2) l0_2) ∧ Aside0 (wc.heap[gb38001]? = some (.cells #[.int .i64 a0_0, (.slice A0_1 l0_1.length c0_1), (.slice A0_2 l0_2.length c0_2)] 44 (0, 0))) ∧ Aside0 (wc.heap[gb38002]? = some (.cells #[.int .i64 0, (.slice none 0 0), (.slice none 0 0)] 44 (0, 0))) ∧ Aside0 (Below w.heap.size w wc))
  case first =>
    have H := HC3.out
    clear HC3
    by_cases c6 : a0_0 < 0
    · rw [if_pos c6] at H
      have c6b0 : decide (a0_0 < 0) = true := decide_eq_true c6
      clear c6
      (first | rw [c6b0] | (simp only [i64_w, i32_w]; rw [c6b0]) | skip)
      have H' := Aside0.mk H
      clear H
      have hnb7 := NB38001_38002.out
      have hnc7 := NB38002_38001.out
      have hcz8_0 : w5.cell? ⟨gb38001, 0, none⟩ = some (.int .i64 a0_0) := (blk_cell BK38001.out 0).trans rfl
      have hcz8_1 : w5.cell? ⟨gb38001, 1, none⟩ = some (.slice A0_1 l0_1.length c0_1) := (blk_cell BK38001.out 1).trans rfl
      have hcz8_2 : w5.cell? ⟨gb38001, 2, none⟩ = some (.slice A0_2 l0_2.length c0_2) := (blk_cell BK38001.out 2).trans rfl
      have hfz8_0 := blk_frozen BK38001.out 0
      have hfz8_1 := blk_frozen BK38001.out 1
      have hfz8_2 := blk_frozen BK38001.out 2
      go_wp2
      go_meet
      case rel => exact ⟨_, (true), (by first | rfl | (simp; done) | (simp [*]; done)), H', ⟨by first | omega | exact Nat.le_refl _⟩, ⟨Kd.V_ext (Kd.V_mono HO0_2.out (fun _ hk => ⟨hk.1.1, ⟨hk.1.2, hk.2⟩⟩))⟩, ⟨blk_ext BK38001.out⟩, ⟨blk_ext BK38002.out⟩, ⟨below_extB HB.out⟩⟩
    · rw [if_neg c6] at H
      have c6b0 : decide (a0_0 < 0) = false := decide_eq_false c6
      clear c6
      (first | rw [c6b0] | (simp only [i64_w, i32_w]; rw [c6b0]) | skip)
      by_cases c9 : a1 < a0_0
      · rw [if_pos c9] at H
        have c9b0 : decide (a1 < a0_0) = true := decide_eq_true c9
        clear c9
        have H' := Aside0.mk H
        clear H
        have hnb10 := NB38001_38002.out
        have hnc10 := NB38002_38001.out
        have hcz11_0 : w5.cell? ⟨gb38001, 0, none⟩ = some (.int .i64 a0_0) := (blk_cell BK38001.out 0).trans rfl
        have hcz11_1 : w5.cell? ⟨gb38001, 1, none⟩ = some (.slice A0_1 l0_1.length c0_1) := (blk_cell BK38001.out 1).trans rfl
        have hcz11_2 : w5.cell? ⟨gb38001, 2, none⟩ = some (.slice A0_2 l0_2.length c0_2) := (blk_cell BK38001.out 2).trans rfl
        have hfz11_0 := blk_frozen BK38001.out 0
        have hfz11_1 := blk_frozen BK38001.out 1
        have hfz11_2 := blk_frozen BK38001.out 2
        go_wp2
        go_meet
        case rel => exact ⟨_, (true), (by first | rfl | (simp; done) | (simp [*]; done)), H', ⟨by first | omega | exact Nat.le_refl _⟩, ⟨Kd.V_ext (Kd.V_mono HO0_2.out (fun _ hk => ⟨hk.1.1, ⟨hk.1.2, hk.2⟩⟩))⟩, ⟨blk_ext BK38001.out⟩, ⟨blk_ext BK38002.out⟩, ⟨below_extB HB.out⟩⟩
      · rw [if_neg c9] at H
        have c9b0 : decide (a1 < a0_0) = false := decide_eq_false c9
        clear c9
        have H' := Aside0.mk H
        clear H
        have hnb12 := NB38001_38002.out
        have hnc12 := NB38002_38001.out
        have hcz13_0 : w5.cell? ⟨gb38001, 0, none⟩ = some (.int .i64 a0_0) := (blk_cell BK38001.out 0).trans rfl
        have hcz13_1 : w5.cell? ⟨gb38001, 1, none⟩ = some (.slice A0_1 l0_1.length c0_1) := (blk_cell BK38001.out 1).trans rfl
        have hcz13_2 : w5.cell? ⟨gb38001, 2, none⟩ = some (.slice A0_2 l0_2.length c0_2) := (blk_cell BK38001.out 2).trans rfl
        have hfz13_0 := blk_frozen BK38001.out 0
        have hfz13_1 := blk_frozen BK38001.out 1
        have hfz13_2 := blk_frozen BK38001.out 2
        go_wp2
        go_meet
        case rel => exact ⟨_, (decide (a1 > 1000000)), (by first | rfl | (simp; done) | (simp [*]; done)), H', ⟨by first | omega | exact Nat.le_refl _⟩, ⟨Kd.V_ext (Kd.V_mono HO0_2.out (fun _ hk => ⟨hk.1.1, ⟨hk.1.2, hk.2⟩⟩))⟩, ⟨blk_ext BK38001.out⟩, ⟨blk_ext BK38002.out⟩, ⟨below_extB HB.out⟩⟩
  case rest =>
    clear HC3
    try clear c1
    try clear p2
    try clear c3
    try clear c6
    try clear c6b0
    try clear c7
    try clear c9
    try clear c9b0
    try clear c10
    try clear c12
    try clear hcz11_0
    try clear hcz11_1
    try clear hcz11_2
    try clear hcz13_0
    try clear hcz13_1
    try clear hcz13_2
    try clear hcz8_0
    try clear hcz8_1
    try clear hcz8_2
    try clear hfz11_0
    try clear hfz11_1
    try clear hfz11_2
    try clear hfz13_0
    try clear hfz13_1
    try clear hfz13_2
    try clear hfz8_0
    try clear hfz8_1
    try clear hfz8_2
    obtain ⟨kq, x20_2, rfl, HA, HJ2, HO_38002002, BK38001, BK38002, HB⟩ := hcut
    cases kq with
    | zero => exact absurd HA.out (by simp [customsref33_Transmit.j0])
    | succ kj2 =>
      have H := HA.out
      clear HA
      simp only [customsref33_Transmit.j0] at H
      by_cases c14 : x20_2 = true
      · subst c14
        have H1 : (some (0, ([] : List Int), ([] : List Int), 2)) = some (r1, r2, r3, r4) := by rw [if_pos rfl] at H; exact H
        clear H
        have H := H1
        clear H1
        simp only [Option.some.injEq, Prod.mk.injEq] at H
        obtain ⟨rfl, rfl, rfl, rfl⟩ := H
        have hnb15 := NB38002_38001.out
        have hnc15 := NB38001_38002.out
        have hcz16_0 : wc.cell? ⟨gb38002, 0, none⟩ = some (.int .i64 0) := (blk_cell BK38002.out 0).trans rfl
        have hcz16_1 : wc.cell? ⟨gb38002, 1, none⟩ = some (.slice none 0 0) := (blk_cell BK38002.out 1).trans rfl
        have hcz16_2 : wc.cell? ⟨gb38002, 2, none⟩ = some (.slice none 0 0) := (blk_cell BK38002.out 2).trans rfl
        have hfz16_0 := blk_frozen BK38002.out 0
        have hfz16_1 := blk_frozen BK38002.out 1
        have hfz16_2 := blk_frozen BK38002.out 2
        go_wp2
        refine bodyPost_ret (results_ct rfl _ _ gb38002 44 #[.int .i64 0, .slice none 0 0, .slice none 0 0] (0, 0) _ rfl (by (with_reducible repeat (first | refine blk_drewN ?_ _ | refine blk_drew ?_ | refine blk_alloc ?_ _)); refine blk_put (cs := #[.int .i64 0, .slice none 0 0, .slice none 0 0]) ?_ 2 _ rfl; (with_reducible repeat (first | refine blk_drewN ?_ _ | refine blk_drew ?_ | refine blk_alloc ?_ _)); refine blk_put (cs := #[.int .i64 0, .slice none 0 0, .slice none 0 0]) ?_ 1 _ rfl; (with_reducible repeat (first | refine blk_drewN ?_ _ | refine blk_drew ?_ | refine blk_alloc ?_ _)); refine blk_put (cs := #[.int .i64 0, .slice none 0 0, .slice none 0 0]) ?_ 0 _ rfl; exact blk_ext BK38002.out) Try.underlying44 rfl (by kernel_rfl)) rfl ?_
        exact ⟨_, _, by first | rfl | (simp [errW_none, errW_some] <;> rfl) | (simp [*, errW_none, errW_some] <;> rfl), by first | exact Kd.R_nil _ _ _ _ _ | exact Kd.N_nil _ _ _ _ _ | exact Kd.V_nil _ _ _ _ _ | exact Kd.Q_nil _ _ _ _ _ | exact Kd.S_nil _ _ _ _ _, Kd.V_nil _ _ _ _ _, below_extB HB.out⟩
      · replace c14 := Bool.eq_false_iff.mpr c14
        subst c14
        have H1 : (if (wrap64 (a1 - a0_0)) > (wrap64 (1000 - (l0_1.length : Int))) then (some (0, ([] : List Int), ([] : List Int), 8)) else ((some (([] : List Int) : List Int)).bind fun y38003 => (if y38003.length + l0_1.length < 17592186044416 then (customsref33_Transmit.l0 kj2 a1 (y38003 ++ l0_1) (wrap64 (a0_0 + 1)) a0_0 l0_1 l0_2) else (none)))) = some (r1, r2, r3, r4) := by rw [if_neg (show ¬ (false = true) by decide)] at H; exact H
        clear H
        have H := H1
        clear H1
        by_cases c17 : (wrap64 (a1 - a0_0)) > (wrap64 (1000 - (l0_1.length : Int)))
        · rw [if_pos c17] at H
          have c17b0 : decide ((wrap64 (1000 - (l0_1.length : Int))) < (wrap64 (a1 - a0_0))) = true := decide_eq_true c17
          clear c17
          simp only [Option.some.injEq, Prod.mk.injEq] at H
          obtain ⟨rfl, rfl, rfl, rfl⟩ := H
          have hnb18 := NB38001_38002.out
          have hnc18 := NB38002_38001.out
          have hcz19_0 : wc.cell? ⟨gb38001, 0, none⟩ = some (.int .i64 a0_0) := (blk_cell BK38001.out 0).trans rfl
          have hcz19_1 : wc.cell? ⟨gb38001, 1, none⟩ = some (.slice A0_1 l0_1.length c0_1) := (blk_cell BK38001.out 1).trans rfl
          have hcz19_2 : wc.cell? ⟨gb38001, 2, none⟩ = some (.slice A0_2 l0_2.length c0_2) := (blk_cell BK38001.out 2).trans rfl
          have hfz19_0 := blk_frozen BK38001.out 0
          have hfz19_1 := blk_frozen BK38001.out 1
          have hfz19_2 := blk_frozen BK38001.out 2
          have hcz20_0 : wc.cell? ⟨gb38002, 0, none⟩ = some (.int .i64 0) := (blk_cell BK38002.out 0).trans rfl
          have hcz20_1 : wc.cell? ⟨gb38002, 1, none⟩ = some (.slice none 0 0) := (blk_cell BK38002.out 1).trans rfl
          have hcz20_2 : wc.cell? ⟨gb38002, 2, none⟩ = some (.slice none 0 0) := (blk_cell BK38002.out 2).trans rfl
          have hfz20_0 := blk_frozen BK38002.out 0
          have hfz20_1 := blk_frozen BK38002.out 1
          have hfz20_2 := blk_frozen BK38002.out 2
          go_wp2
          refine bodyPost_ret (results_ct rfl _ _ gb38002 44 #[.int .i64 0, .slice none 0 0, .slice none 0 0] (0, 0) _ rfl (by (with_reducible repeat (first | refine blk_drewN ?_ _ | refine blk_drew ?_ | refine blk_alloc ?_ _)); refine blk_put (cs := #[.int .i64 0, .slice none 0 0, .slice none 0 0]) ?_ 2 _ rfl; (with_reducible repeat (first | refine blk_drewN ?_ _ | refine blk_drew ?_ | refine blk_alloc ?_ _)); refine blk_put (cs := #[.int .i64 0, .slice none 0 0, .slice none 0 0]) ?_ 1 _ rfl; (with_reducible repeat (first | refine blk_drewN ?_ _ | refine blk_drew ?_ | refine blk_alloc ?_ _)); refine blk_put (cs := #[.int .i64 0, .slice none 0 0, .slice none 0 0]) ?_ 0 _ rfl; exact blk_ext BK38002.out) Try.underlying44 rfl (by kernel_rfl)) rfl ?_
          exact ⟨_, _, by first | rfl | (simp [errW_none, errW_some] <;> rfl) | (simp [*, errW_none, errW_some] <;> rfl), by first | exact Kd.R_nil _ _ _ _ _ | exact Kd.N_nil _ _ _ _ _ | exact Kd.V_nil _ _ _ _ _ | exact Kd.Q_nil _ _ _ _ _ | exact Kd.S_nil _ _ _ _ _, Kd.V_nil _ _ _ _ _, below_extB HB.out⟩
        · rw [if_neg c17] at H
          have c17b0 : decide ((wrap64 (1000 - (l0_1.length : Int))) < (wrap64 (a1 - a0_0))) = false := decide_eq_false c17
          clear c17
          obtain ⟨y38003, hy38003⟩ : ∃ y_ : List Int, y_ = (([] : List Int)) := ⟨_, rfl⟩
          replace H : (if y38003.length + l0_1.length < 17592186044416 then (customsref33_Transmit.l0 kj2 a1 (y38003 ++ l0_1) (wrap64 (a0_0 + 1)) a0_0 l0_1 l0_2) else (none)) = some (r1, r2, r3, r4) := by first | (rw [hy38003]; with_reducible exact H) | (have H2_ := (Option.bind_some _ _).symm.trans H; rw [hy38003]; with_reducible exact H2_) | (have H2_ := (Option.bind_some _ _).symm.trans H; with_reducible exact H2_) | with_reducible exact H | (rw [hy38003]; exact H) | exact H
          have Ny38003 := Aside0.mk hy38003
          clear hy38003
          by_cases c21 : y38003.length + l0_1.length < 17592186044416
          · rw [if_pos c21] at H
            have LMc21 := Aside0.mk c21
            clear c21
            obtain ⟨y38006, hy38006⟩ : ∃ y_ : List Int, y_ = (y38003 ++ l0_1) := ⟨_, rfl⟩
            replace H : (customsref33_Transmit.l0 kj2 a1 y38006 (wrap64 (a0_0 + 1)) a0_0 l0_1 l0_2) = some (r1, r2, r3, r4) := by first | (rw [hy38006]; with_reducible exact H) | (have H2_ := (Option.bind_some _ _).symm.trans H; rw [hy38006]; with_reducible exact H2_) | (have H2_ := (Option.bind_some _ _).symm.trans H; with_reducible exact H2_) | with_reducible exact H | (rw [hy38006]; exact H) | exact H
            have Ny38006 := Aside0.mk hy38006
            clear hy38006
            have H' := Aside0.mk H
            clear H
            have hnb22 := NB38001_38002.out
            have hnc22 := NB38002_38001.out
            have hcz23_0 : wc.cell? ⟨gb38001, 0, none⟩ = some (.int .i64 a0_0) := (blk_cell BK38001.out 0).trans rfl
            have hcz23_1 : wc.cell? ⟨gb38001, 1, none⟩ = some (.slice A0_1 l0_1.length c0_1) := (blk_cell BK38001.out 1).trans rfl
            have hcz23_2 : wc.cell? ⟨gb38001, 2, none⟩ = some (.slice A0_2 l0_2.length c0_2) := (blk_cell BK38001.out 2).trans rfl
            have hfz23_0 := blk_frozen BK38001.out 0
            have hfz23_1 := blk_frozen BK38001.out 1
            have hfz23_2 := blk_frozen BK38001.out 2
            go_wp2_with (first | ((with_reducible refine gate_dst (N := 32) rfl ?_); refine Kd.R_lit (Kd.int .i64) _ 3 ?hg (N := 32) ?hd (xs := ([] : List Int)) (inner := []) (ok := fun _ => True) (okp := fun _ => True) ?hr ?hp (fun _ hk => hk) trivial (Below.refl _ _) (Nat.le_refl _) (by simp) ?_; (case hd => rfl); (case hg => rfl); (case hr => first | (go_simp; done) | (go_simp; rfl)); (case hp => exact (Reps.none _ _)); intro v38004 w24 ho25 hb hg_ hnew_; clear hg_ hnew_; (first | rw [← Ny38003.out] at ho25 | (simp only [Int.reduceToNat] at ho25; rw [← Ny38003.out] at ho25)); have n1_ := Aside0.mk (Kd.R_lower (Kd.R_newM (M := fun k_ => (w.heap.size ≤ k_)) ho25 (below_size (below_extB HB.out)) (fun k_ h_ => h_)) (below_size (below_extB HB.out))); have HO38005 := n1_; replace HO_38002002 := apV HO_38002002 hb (Kd.R_base ho25); replace BK38001 := mvB BK38001 hb; replace BK38002 := mvB BK38002 hb; replace HB := mvH HB hb; clear n1_; clear hb ho25; have hcz26_0 : w24.cell? ⟨gb38001, 0, none⟩ = some (.int .i64 a0_0) := (blk_cell BK38001.out 0).trans rfl; have hcz26_1 : w24.cell? ⟨gb38001, 1, none⟩ = some (.slice A0_1 l0_1.length c0_1) := (blk_cell BK38001.out 1).trans rfl; have hcz26_2 : w24.cell? ⟨gb38001, 2, none⟩ = some (.slice A0_2 l0_2.length c0_2) := (blk_cell BK38001.out 2).trans rfl; have hfz26_0 := blk_frozen BK38001.out 0; have hfz26_1 := blk_frozen BK38001.out 1; have hfz26_2 := blk_frozen BK38001.out 2) | ((with_reducible refine gate_builtin (b := .append) (xs := #[.tmp 32, .tmp 34]) rfl ?_); at_builtin; refine Kd.R_append_rows (Kd.int .i64) (w0 := w) w.heap.size rfl (.tmp 32) (.tmp 34) 42 3 (.int .i64 0) 8 rfl Try.underlying42 info3 rfl (by decide) (by omega) v38004 y38003 l0_1 _ _ _ (fun k_ => (w.heap.size ≤ k_)) (fun _ => False) rfl rfl ?aO ?aR (fun _ _ h => h) (fun _ h => h.elim) ?aF ?aB ?aS ?aL ?_; (case aR => repeat (first | exact (Kd.C_below HR0_1.out HB.out) | (with_reducible refine Kd.C_alloc ?_ _) | (with_reducible refine Kd.C_drewN ?_ _) | (with_reducible refine Kd.C_drew ?_))); (case aB => exact (below_extB HB.out)); (case aF => exact (fun k_ hk => (Nat.le_trans (below_size (below_extB HB.out)) hk))); (case aO => exact (Kd.R_ext (Kd.R_mono HO38005.out (fun _ hk => hk.1)))); (case aS => exact (below_size (below_extB HB.out))); (case aL => have := LMc21.out; omega); intro v38007 w27 ho hb hg hat; rw [← Ny38006.out] at ho; have n0_ := Aside0.mk (Kd.V_afterv (ok := (fun k_ => (P0_2_ k_ ∨ w.heap.size ≤ k_) ∧ k_ ≠ gb38001 ∧ k_ ≠ gb38002)) (Kd.V_ext HO_38002002.out) hg hat); have n1_ := Aside0.mk (blk_grown (g := gb38001) (o := .cells #[.int .i64 a0_0, .slice A0_1 l0_1.length c0_1, .slice A0_2 l0_2.length c0_2] 44 (0, 0)) (blk_ext BK38001.out) hg (Kd.R_ne HO38005.out BK38001.out (by decide))); have n2_ := Aside0.mk (blk_grown (g := gb38002) (o := .cells #[.int .i64 0, .slice none 0 0, .slice none 0 0] 44 (0, 0)) (blk_ext BK38002.out) hg (Kd.R_ne HO38005.out BK38002.out (by decide))); have n3_ := Aside0.mk (hb); have n4_ := Aside0.mk (ho); clear HO_38002002; clear BK38001; clear BK38002; clear HB; clear HO38005; have HO_38002002 := n0_; have BK38001 := n1_; have BK38002 := n2_; have HB := n3_; have HO38008 := n4_; clear n0_ n1_ n2_ n3_ n4_; clear ho hb hg hat; have hcz28_0 : w27.cell? ⟨gb38001, 0, none⟩ = some (.int .i64 a0_0) := (blk_cell BK38001.out 0).trans rfl; have hcz28_1 : w27.cell? ⟨gb38001, 1, none⟩ = some (.slice A0_1 l0_1.length c0_1) := (blk_cell BK38001.out 1).trans rfl; have hcz28_2 : w27.cell? ⟨gb38001, 2, none⟩ = some (.slice A0_2 l0_2.length c0_2) := (blk_cell BK38001.out 2).trans rfl; have hfz28_0 := blk_frozen BK38001.out 0; have hfz28_1 := blk_frozen BK38001.out 1; have hfz28_2 := blk_frozen BK38001.out 2))
            go_loopg [6, 7] kj2 (fun kq v6 v7 w' => ∃ (x6_2 : List Int) (x7_2 : Int), v7 = .int .i64 x7_2 ∧ Aside0 (customsref33_Transmit.l0 kq a1 x6_2 x7_2 a0_0 l0_1 l0_2 = some (r1, r2, r3, r4)) ∧ Aside0 (kq ≤ kj2) ∧ Aside0 (Kd.R (Kd.int .i64) 3 w' w.heap.size (fun k_ => (w.heap.size ≤ k_)) v6 x6_2) ∧ Aside0 (Kd.V (Kd.int .i64) 3 w' w.heap.size (fun k_ => (P0_2_ k_ ∨ w.heap.size ≤ k_) ∧ some k_ ≠ (v6 : Value).ownBlock ∧ k_ ≠ gb38001 ∧ k_ ≠ gb38002) (.slice A0_2 l0_2.length c0_2) l0_2) ∧ Aside0 (w'.heap[gb38001]? = some (.cells #[.int .i64 a0_0, (.slice A0_1 l0_1.length c0_1), (.slice A0_2 l0_2.length c0_2)] 44 (0, 0))) ∧ Aside0 (w'.heap[gb38002]? = some (.cells #[.int .i64 0, (.slice none 0 0), (.slice none 0 0)] 44 (0, 0))) ∧ Aside0 (Below w.heap.size w w'))
            case atStart => exact ⟨(y38006), (wrap64 (a0_0 + 1)), (by first | rfl | (simp; done) | (simp [*]; done)), H', ⟨Nat.le_refl _⟩, ⟨Kd.R_ext HO38008.out⟩, ⟨Kd.V_ext (Kd.V_mono HO_38002002.out (fun _ hk => ⟨hk.1.1, ⟨hk.2, ⟨hk.1.2.1, hk.1.2.2⟩⟩⟩))⟩, ⟨blk_ext BK38001.out⟩, ⟨blk_ext BK38002.out⟩, ⟨below_extB HB.out⟩⟩
            case round =>
              clear H'
              try clear c1
              try clear c2
              try clear p2
              try clear c3
              try clear c6
              try clear c6b0
              try clear p6
              try clear c7
              try clear c9
              try clear c9b0
              try clear c10
              try clear c12
              try clear c14
              try clear c15
              try clear c17
              try clear c17b0
              try clear c18
              try clear c21
              try clear c22
              try clear hcz11_0
              try clear hcz11_1
              try clear hcz11_2
              try clear hcz13_0
              try clear hcz13_1
              try clear hcz13_2
              try clear hcz16_0
              try clear hcz16_1
              try clear hcz16_2
              try clear hcz19_0
              try clear hcz19_1
              try clear hcz19_2
              try clear hcz20_0
              try clear hcz20_1
              try clear hcz20_2
              try clear hcz23_0
              try clear hcz23_1
              try clear hcz23_2
              try clear hcz26_0
              try clear hcz26_1
              try clear hcz26_2
              try clear hcz28_0
              try clear hcz28_1
              try clear hcz28_2
              try clear hcz8_0
              try clear hcz8_1
              try clear hcz8_2
              try clear hfz11_0
              try clear hfz11_1
              try clear hfz11_2
              try clear hfz13_0
              try clear hfz13_1
              try clear hfz13_2
              try clear hfz16_0
              try clear hfz16_1
              try clear hfz16_2
              try clear hfz19_0
              try clear hfz19_1
              try clear hfz19_2
              try clear hfz20_0
              try clear hfz20_1
              try clear hfz20_2
              try clear hfz23_0
              try clear hfz23_1
              try clear hfz23_2
              try clear hfz26_0
              try clear hfz26_1
              try clear hfz26_2
              try clear hfz28_0
              try clear hfz28_1
              try clear hfz28_2
              try clear hfz8_0
              try clear hfz8_1
              try clear hfz8_2
              try clear p2
              obtain ⟨x6_2, x7_2, rfl, HA, HK2, HO_6, HO_38002002, BK38001, BK38002, HB⟩ := hrel
              cases gk with
              | zero => exact absurd HA.out (by simp [customsref33_Transmit.l0])
              | succ k2 =>
                have H := HA.out
                clear HA
                simp only [customsref33_Transmit.l0] at H
                by_cases c29 : x7_2 ≤ a1
                · rw [if_pos c29] at H
                  have c29b0 : decide (x7_2 ≤ a1) = true := decide_eq_true c29
                  clear c29
                  replace H := if_some H; obtain ⟨c30, H⟩ := H
                  have LMc30 := Aside0.mk c30
                  clear c30
                  obtain ⟨y38009, hy38009⟩ : ∃ y_ : List Int, y_ = (x6_2 ++ [x7_2]) := ⟨_, rfl⟩
                  replace H : (customsref33_Transmit.l0 k2 a1 y38009 (wrap64 (x7_2 + 1)) a0_0 l0_1 l0_2) = some (r1, r2, r3, r4) := by first | (rw [hy38009]; with_reducible exact H) | (have H2_ := (Option.bind_some _ _).symm.trans H; rw [hy38009]; with_reducible exact H2_) | (have H2_ := (Option.bind_some _ _).symm.trans H; with_reducible exact H2_) | with_reducible exact H | (rw [hy38009]; exact H) | exact H
                  have Ny38009 := Aside0.mk hy38009
                  clear hy38009
                  have H' := Aside0.mk H
                  clear H
                  go_wp2_with (first | ((with_reducible refine gate_builtin (b := .append) (xs := #[.tmp 44, .tmp 46]) rfl ?_); at_builtin; refine Kd.R_append (Kd.int .i64) (w0 := w) w.heap.size rfl (.tmp 44) (.tmp 46) 42 3 (.int .i64 0) 8 rfl Try.underlying42 info3 rfl (by decide) (by omega) u6 x6_2 x7_2 [.int .i64 x7_2] (fun k_ => (w.heap.size ≤ k_)) (fun _ => False) rfl rfl ?aP (fun _ hk => hk.elim) ?aF ?aO ?aB ?aS ?aL ?_; (case aP => exact rfl); (case aB => exact (below_extB HB.out)); (case aF => exact (fun k_ hk => (Nat.le_trans (below_size (below_extB HB.out)) hk))); (case aO => exact (Kd.R_ext HO_6.out)); (case aS => exact (below_size (below_extB HB.out))); (case aL => have := LMc30.out; omega); intro v38010 w31 ho hb hg hat; rw [← Ny38009.out] at ho; have n0_ := Aside0.mk (Kd.V_afterv (ok := (fun k_ => (P0_2_ k_ ∨ w.heap.size ≤ k_) ∧ k_ ≠ gb38001 ∧ k_ ≠ gb38002)) (Kd.V_ext (Kd.V_mono HO_38002002.out (fun _ hk => ⟨⟨hk.1, ⟨hk.2.2.1, hk.2.2.2⟩⟩, hk.2.1⟩))) hg hat); have n1_ := Aside0.mk (blk_grown (g := gb38001) (o := .cells #[.int .i64 a0_0, .slice A0_1 l0_1.length c0_1, .slice A0_2 l0_2.length c0_2] 44 (0, 0)) (blk_ext BK38001.out) hg (Kd.R_ne HO_6.out BK38001.out (by decide))); have n2_ := Aside0.mk (blk_grown (g := gb38002) (o := .cells #[.int .i64 0, .slice none 0 0, .slice none 0 0] 44 (0, 0)) (blk_ext BK38002.out) hg (Kd.R_ne HO_6.out BK38002.out (by decide))); have n3_ := Aside0.mk (hb); have n4_ := Aside0.mk (ho); clear HO_38002002; clear BK38001; clear BK38002; clear HB; clear HO_6; have HO_38002002 := n0_; have BK38001 := n1_; have BK38002 := n2_; have HB := n3_; have HO38011 := n4_; clear n0_ n1_ n2_ n3_ n4_; clear ho hb hg hat))
                  go_roundg k2
                  case measure => have := HJ2.out; have := HK2.out; omega
                  case rel => exact ⟨(y38009), (wrap64 (x7_2 + 1)), (by first | rfl | (simp; done) | (simp [*]; done)), H', ⟨by have := HJ2.out; have := HK2.out; omega⟩, ⟨Kd.R_ext HO38011.out⟩, ⟨Kd.V_ext (Kd.V_mono HO_38002002.out (fun _ hk => ⟨hk.1.1, ⟨hk.2, ⟨hk.1.2.1, hk.1.2.2⟩⟩⟩))⟩, ⟨blk_ext BK38001.out⟩, ⟨blk_ext BK38002.out⟩, ⟨below_extB HB.out⟩⟩
                · rw [if_neg c29] at H
                  have c29b0 : decide (x7_2 ≤ a1) = false := decide_eq_false c29
                  clear c29
                  simp only [Option.some.injEq, Prod.mk.injEq] at H
                  obtain ⟨rfl, rfl, rfl, rfl⟩ := H
                  have hnb32 := NB38001_38002.out
                  have hnc32 := NB38002_38001.out
                  have hcz33_0 : wr.cell? ⟨gb38001, 0, none⟩ = some (.int .i64 a0_0) := (blk_cell BK38001.out 0).trans rfl
                  have hcz33_1 : wr.cell? ⟨gb38001, 1, none⟩ = some (.slice A0_1 l0_1.length c0_1) := (blk_cell BK38001.out 1).trans rfl
                  have hcz33_2 : wr.cell? ⟨gb38001, 2, none⟩ = some (.slice A0_2 l0_2.length c0_2) := (blk_cell BK38001.out 2).trans rfl
                  have hfz33_0 := blk_frozen BK38001.out 0
                  have hfz33_1 := blk_frozen BK38001.out 1
                  have hfz33_2 := blk_frozen BK38001.out 2
                  obtain ⟨Ao34, co34, eo34⟩ := Kd.R_slice HO_6.out
                  subst eo34
                  have hcz35_0 : wr.cell? ⟨gb38002, 0, none⟩ = some (.int .i64 0) := (blk_cell BK38002.out 0).trans rfl
                  have hcz35_1 : wr.cell? ⟨gb38002, 1, none⟩ = some (.slice none 0 0) := (blk_cell BK38002.out 1).trans rfl
                  have hcz35_2 : wr.cell? ⟨gb38002, 2, none⟩ = some (.slice none 0 0) := (blk_cell BK38002.out 2).trans rfl
                  have hfz35_0 := blk_frozen BK38002.out 0
                  have hfz35_1 := blk_frozen BK38002.out 1
                  have hfz35_2 := blk_frozen BK38002.out 2
                  go_wp2
                  refine bodyPost_ret (results_ct rfl _ _ gb38002 44 #[.int .i64 a0_0, .slice Ao34 x6_2.length co34, .slice A0_2 l0_2.length c0_2] (0, 0) _ rfl (by (with_reducible repeat (first | refine blk_drewN ?_ _ | refine blk_drew ?_ | refine blk_alloc ?_ _)); refine blk_put (cs := #[.int .i64 a0_0, .slice Ao34 x6_2.length co34, .slice none 0 0]) ?_ 2 _ rfl; (with_reducible repeat (first | refine blk_drewN ?_ _ | refine blk_drew ?_ | refine blk_alloc ?_ _)); refine blk_put (cs := #[.int .i64 a0_0, .slice none 0 0, .slice none 0 0]) ?_ 1 _ rfl; (with_reducible repeat (first | refine blk_drewN ?_ _ | refine blk_drew ?_ | refine blk_alloc ?_ _)); refine blk_put (cs := #[.int .i64 0, .slice none 0 0, .slice none 0 0]) ?_ 0 _ rfl; exact blk_ext BK38002.out) Try.underlying44 rfl (by kernel_rfl)) rfl ?_
                  exact ⟨_, _, by first | rfl | (simp [errW_none, errW_some] <;> rfl) | (simp [*, errW_none, errW_some] <;> rfl), Kd.R_ext (Kd.R_mono (Kd.R_far (p := ⟨gb38002, 2, none⟩) (Kd.R_far (p := ⟨gb38002, 1, none⟩) (Kd.R_far (p := ⟨gb38002, 0, none⟩) (Kd.R_types HO_6.out BK38002.out (by decide)) (fun _ hk => hk.2) (.int .i64 a0_0)) (fun _ hk => hk.2) (.slice Ao34 x6_2.length co34)) (fun _ hk => hk.2) (.slice A0_2 l0_2.length c0_2)) (fun _ hk => hk.1)), Kd.V_ext (Kd.V_mono (Kd.V_far (p := ⟨gb38002, 2, none⟩) (Kd.V_far (p := ⟨gb38002, 1, none⟩) (Kd.V_far (p := ⟨gb38002, 0, none⟩) (Kd.V_mono HO_38002002.out (fun k_ hk => (⟨hk, hk.2.2.2⟩ : _ ∧ k_ ≠ gb38002))) (fun _ hk => hk.2) (.int .i64 a0_0)) (fun _ hk => hk.2) (.slice Ao34 x6_2.length co34)) (fun _ hk => hk.2) (.slice A0_2 l0_2.length c0_2)) (fun _ hk => ⟨hk.1.1, hk.1.2.1⟩)), below_extB HB.out⟩
          · rw [if_neg c21] at H
            exact absurd H (by simp)

end Go.Proofs.Ytfljnggpnndmkaa.Z
