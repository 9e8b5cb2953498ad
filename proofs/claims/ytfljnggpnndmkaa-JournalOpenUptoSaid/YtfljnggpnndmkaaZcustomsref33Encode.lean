/- Written by a program of this session: each Go function as a plain Lean function, and that the machine's call does what it says. Conditions: none but those each theorem states. -/
import Derived.Test.YtfljnggpnndmkaaZ0
import Derived.Test.YtfljnggpnndmkaaZcustomsref06Checksum
namespace Go.Proofs.Ytfljnggpnndmkaa.Z
open Go.RowKit Go.Proofs.YtfljnggpnndmkaaW.PrintWords Go.Proofs.YtfljnggpnndmkaaW.PrintLast Go.Proofs.YtfljnggpnndmkaaW.PrintMore
attribute [local go_sem] max2_int min2_int max_two min_two max_three min_three max_four min_four   -- for this text's walks alone
set_option linter.unusedVariables false
set_option linter.unusedSimpArgs false

/-! ### customsref33_Encode: function 52 -/
def customsref33_Encode.j0 : Nat → Bool → Int → List Int → Option (List Int × Int)
  | 0, _, _, _ => none
  | k + 1, x14, x52002000, x52002001 => if x14 = true then (some (([] : List Int), 2)) else (if (x52002001.length : Int) > 60000 then (some (([] : List Int), 8)) else ((some (([(wrap64 ((x52002001.length : Int) / 256)) % 256, (x52002001.length : Int) % 256, (wrap64 (255 - (wrap64 ((x52002001.length : Int) / 256)))) % 256, 255 - ((x52002001.length : Int) % 256), (x52002000) % 256] : List Int) : List Int)).bind fun y52002 => (if y52002.length + x52002001.length < 140737488355328 then ((some (y52002 ++ x52002001 : List Int)).bind fun y52005 => ((customsref06_Checksum.f k y52005).bind fun t52008 => ((some (([(wrap64 (Int.tdiv t52008 16777216)) % 256, (Int.tmod (wrap64 (Int.tdiv t52008 65536)) 256) % 256, (Int.tmod (wrap64 (Int.tdiv t52008 256)) 256) % 256, (Int.tmod t52008 256) % 256] : List Int) : List Int)).bind fun y52009 => (if y52005.length + y52009.length < 140737488355328 then (some ((y52005 ++ y52009), 0)) else (none))))) else (none))))
def customsref33_Encode.f (k : Nat) (a0_0 : Int) (l0_1 : List Int) : Option (List Int × Int) := if a0_0 = 1 then (customsref33_Encode.j0 k false a0_0 l0_1) else (customsref33_Encode.j0 k (a0_0 != 2) a0_0 l0_1)
theorem customsref33_Encode.mono_l : ∀ k, (∀ y0 y1 y2, LeO (customsref33_Encode.j0 k y0 y1 y2) (customsref33_Encode.j0 (k + 1) y0 y1 y2))
  | 0 => fun _ _ _ r h => by simp [customsref33_Encode.j0] at h
  | k + 1 => by
    have ih0 := customsref33_Encode.mono_l k
    · intro y0 y1 y2
      unfold customsref33_Encode.j0
      repeat' first
      | (with_reducible exact ih0 _ _ _)
      | (with_reducible exact customsref06_Checksum.mono _ _)
      | (with_reducible exact LeO.refl _)
      | (with_reducible exact LeO.none _)
      | (with_reducible refine LeO.ite ?_ ?_)
      | (with_reducible refine LeO.bind ?_ (fun _ => ?_))
      | exact ih0 _ _ _
      | exact customsref06_Checksum.mono _ _
      | exact LeO.none _
      | refine LeO.ite ?_ ?_
      | refine LeO.bind ?_ (fun _ => ?_)
theorem customsref33_Encode.mono : ∀ a0 a1 k, LeO (customsref33_Encode.f k a0 a1) (customsref33_Encode.f (k + 1) a0 a1) := by
  intro a0 a1 k
  have ih0 := customsref33_Encode.mono_l k
  unfold customsref33_Encode.f
  repeat' first
      | (with_reducible exact ih0 _ _ _)
      | (with_reducible exact customsref06_Checksum.mono _ _)
      | (with_reducible exact LeO.refl _)
      | (with_reducible exact LeO.none _)
      | (with_reducible refine LeO.ite ?_ ?_)
      | (with_reducible refine LeO.bind ?_ (fun _ => ?_))
      | exact ih0 _ _ _
      | exact customsref06_Checksum.mono _ _
      | exact LeO.none _
      | refine LeO.ite ?_ ?_
      | refine LeO.bind ?_ (fun _ => ?_)
set_option maxHeartbeats 8000000 in
set_option maxRecDepth 100000 in
theorem customsref33_Encode.calls (k : Nat) (a0_0 : Int) (A0_1 : Option Addr) (c0_1 : Nat) (l0_1 : List Int) (r1 : List Int) (r2 : Int) (w : World) (hr0_1 : Kd.C (Kd.int .u8) w A0_1 l0_1.length l0_1) (hc0_1 : l0_1.length ≤ c0_1) (h : customsref33_Encode.f k a0_0 l0_1 = some (r1, r2)) :
    Calls Try.prog 52 #[.agg #[.int .i64 a0_0, .slice A0_1 l0_1.length c0_1]] w fun e w' => ∃ v0_ : Value, e = .returned (.tuple #[v0_, .int .i64 r2]) ∧ Kd.R (Kd.int .u8) 5 w' w.heap.size (fun _ => True) v0_ r1 ∧ Below w.heap.size w w' := by
  have hu57 := Try.underlying57
  have HR0_1 := Aside0.mk hr0_1
  have HC0_1 := Aside0.mk hc0_1
  clear hr0_1 hc0_1
  have HB := Aside0.mk (Below.refl w.heap.size w)
  have H : (if a0_0 = 1 then (customsref33_Encode.j0 k false a0_0 l0_1) else (customsref33_Encode.j0 k (a0_0 != 2) a0_0 l0_1)) = some (r1, r2) := h
  clear h
  have HC2 := Aside0.mk H
  clear H
  go_enter Try.func52, Try.ntmps52
  go_upto_region 1 with (first | ((with_reducible refine gate_dst (N := 1) rfl ?_); refine box_event ?hg (N := 1) ?hd (cs := #[.int .i64 a0_0, .slice A0_1 l0_1.length c0_1]) (t := 57) ?hr ?_; (case hd => rfl); (case hg => rfl); (case hr => first | (go_simp; done) | (go_simp; rfl)); intro gb52001 hg w3 hbox hb; have n0_ := Aside0.mk (below_step (below_ext HB.out) hb); have n1_ := Aside0.mk (hbox); have n2_ := Aside0.mk ((by rw [hg]; exact (below_size (below_ext HB.out)) : w.heap.size ≤ gb52001)); have n3_ := Aside0.mk ((by rw [hg]; exact (below_size (below_ext HB.out)) : w.heap.size ≤ gb52001)); clear HB; have HB := n0_; have BK52001 := n1_; have GW52001 := n2_; have GE52001 := n3_; have GI52001 := GE_.mk GE52001.out; clear n0_ n1_ n2_ n3_; clear hb hbox hg))
  (try simp only [Act.put, List.setIfInBounds_toArray, List.set_cons_zero, List.set_cons_succ])
  go_cut [14] (fun v14 wc => ∃ (kq : Nat) (x14_1 : Bool), v14 = .bool x14_1 ∧ Aside0 (customsref33_Encode.j0 kq x14_1 a0_0 l0_1 = some (r1, r2)) ∧ Aside0 (kq ≤ k) ∧ Aside0 (wc.heap[gb52001]? = some (.cells #[.int .i64 a0_0, (.slice A0_1 l0_1.length c0_1)] 57 (0, 0))) ∧ Aside0 (Below w.heap.size w wc))
  case first =>
    have H := HC2.out
    clear HC2
    by_cases c4 : a0_0 = 1
    · rw [if_pos c4] at H
      have c4b0 : (a0_0 == 1) = true := beq_iff_eq.mpr c4
      have c4b1 : (a0_0 != 1) = false := bne_eq_false_iff_eq.mpr c4
      clear c4
      (first | rw [c4b0] | (simp only [i64_w, i32_w]; rw [c4b0]) | skip)
      have H' := Aside0.mk H
      clear H
      have hcz5_0 : w3.cell? ⟨gb52001, 0, none⟩ = some (.int .i64 a0_0) := (blk_cell BK52001.out 0).trans rfl
      have hcz5_1 : w3.cell? ⟨gb52001, 1, none⟩ = some (.slice A0_1 l0_1.length c0_1) := (blk_cell BK52001.out 1).trans rfl
      have hfz5_0 := blk_frozen BK52001.out 0
      have hfz5_1 := blk_frozen BK52001.out 1
      go_wp2
      go_meet
      case rel => exact ⟨_, (false), (by first | rfl | (simp; done) | (simp [*]; done)), H', ⟨by first | omega | exact Nat.le_refl _⟩, ⟨blk_ext BK52001.out⟩, ⟨below_extB HB.out⟩⟩
    · rw [if_neg c4] at H
      have c4b0 : (a0_0 == 1) = false := beq_eq_false_iff_ne.mpr c4
      have c4b1 : (a0_0 != 1) = true := bne_iff_ne.mpr c4
      (first | rw [c4b0] | (simp only [i64_w, i32_w]; rw [c4b0]) | skip)
      have H' := Aside0.mk H
      clear H
      have hcz6_0 : w3.cell? ⟨gb52001, 0, none⟩ = some (.int .i64 a0_0) := (blk_cell BK52001.out 0).trans rfl
      have hcz6_1 : w3.cell? ⟨gb52001, 1, none⟩ = some (.slice A0_1 l0_1.length c0_1) := (blk_cell BK52001.out 1).trans rfl
      have hfz6_0 := blk_frozen BK52001.out 0
      have hfz6_1 := blk_frozen BK52001.out 1
      go_wp2
      go_meet
      case rel => exact ⟨_, ((a0_0 != 2)), (by first | rfl | (simp; done) | (simp [*]; done)), H', ⟨by first | omega | exact Nat.le_refl _⟩, ⟨blk_ext BK52001.out⟩, ⟨below_extB HB.out⟩⟩
  case rest =>
    clear HC2
    try clear p2
    try clear c4
    try clear c4b0
    try clear c4b1
    try clear c5
    try clear hcz5_0
    try clear hcz5_1
    try clear hcz6_0
    try clear hcz6_1
    try clear hfz5_0
    try clear hfz5_1
    try clear hfz6_0
    try clear hfz6_1
    obtain ⟨kq, x14_1, rfl, HA, HJ1, BK52001, HB⟩ := hcut
    cases kq with
    | zero => exact absurd HA.out (by simp [customsref33_Encode.j0])
    | succ kj1 =>
      have H := HA.out
      clear HA
      simp only [customsref33_Encode.j0] at H
      by_cases c7 : x14_1 = true
      · subst c7
        have H1 : (some (([] : List Int), 2)) = some (r1, r2) := by rw [if_pos rfl] at H; exact H
        clear H
        have H := H1
        clear H1
        simp only [Option.some.injEq, Prod.mk.injEq] at H
        obtain ⟨rfl, rfl⟩ := H
        go_wp2
        go_ret2
        exact ⟨_, by first | rfl | (simp [errW_none, errW_some] <;> rfl) | (simp [*, errW_none, errW_some] <;> rfl), by first | exact Kd.R_nil _ _ _ _ _ | exact Kd.N_nil _ _ _ _ _ | exact Kd.V_nil _ _ _ _ _ | exact Kd.Q_nil _ _ _ _ _ | exact Kd.S_nil _ _ _ _ _, below_extB HB.out⟩
      · replace c7 := Bool.eq_false_iff.mpr c7
        subst c7
        have H1 : (if (l0_1.length : Int) > 60000 then (some (([] : List Int), 8)) else ((some (([(wrap64 ((l0_1.length : Int) / 256)) % 256, (l0_1.length : Int) % 256, (wrap64 (255 - (wrap64 ((l0_1.length : Int) / 256)))) % 256, 255 - ((l0_1.length : Int) % 256), (a0_0) % 256] : List Int) : List Int)).bind fun y52002 => (if y52002.length + l0_1.length < 140737488355328 then ((some (y52002 ++ l0_1 : List Int)).bind fun y52005 => ((customsref06_Checksum.f kj1 y52005).bind fun t52008 => ((some (([(wrap64 (Int.tdiv t52008 16777216)) % 256, (Int.tmod (wrap64 (Int.tdiv t52008 65536)) 256) % 256, (Int.tmod (wrap64 (Int.tdiv t52008 256)) 256) % 256, (Int.tmod t52008 256) % 256] : List Int) : List Int)).bind fun y52009 => (if y52005.length + y52009.length < 140737488355328 then (some ((y52005 ++ y52009), 0)) else (none))))) else (none)))) = some (r1, r2) := by rw [if_neg (show ¬ (false = true) by decide)] at H; exact H
        clear H
        have H := H1
        clear H1
        by_cases c8 : (l0_1.length : Int) > 60000
        · rw [if_pos c8] at H
          have c8b0 : decide (60000 < (l0_1.length : Int)) = true := decide_eq_true c8
          have c8b1 : decide (60000 < l0_1.length) = true := decide_eq_true (by omega)
          clear c8
          simp only [Option.some.injEq, Prod.mk.injEq] at H
          obtain ⟨rfl, rfl⟩ := H
          have hcz9_0 : wc.cell? ⟨gb52001, 0, none⟩ = some (.int .i64 a0_0) := (blk_cell BK52001.out 0).trans rfl
          have hcz9_1 : wc.cell? ⟨gb52001, 1, none⟩ = some (.slice A0_1 l0_1.length c0_1) := (blk_cell BK52001.out 1).trans rfl
          have hfz9_0 := blk_frozen BK52001.out 0
          have hfz9_1 := blk_frozen BK52001.out 1
          go_wp2
          go_ret2
          exact ⟨_, by first | rfl | (simp [errW_none, errW_some] <;> rfl) | (simp [*, errW_none, errW_some] <;> rfl), by first | exact Kd.R_nil _ _ _ _ _ | exact Kd.N_nil _ _ _ _ _ | exact Kd.V_nil _ _ _ _ _ | exact Kd.Q_nil _ _ _ _ _ | exact Kd.S_nil _ _ _ _ _, below_extB HB.out⟩
        · rw [if_neg c8] at H
          have c8b0 : decide (60000 < (l0_1.length : Int)) = false := decide_eq_false c8
          have c8b1 : decide (60000 < l0_1.length) = false := decide_eq_false (by omega)
          clear c8
          obtain ⟨y52002, hy52002⟩ : ∃ y_ : List Int, y_ = (([(wrap64 ((l0_1.length : Int) / 256)) % 256, (l0_1.length : Int) % 256, (wrap64 (255 - (wrap64 ((l0_1.length : Int) / 256)))) % 256, 255 - ((l0_1.length : Int) % 256), (a0_0) % 256] : List Int)) := ⟨_, rfl⟩
          replace H : (if y52002.length + l0_1.length < 140737488355328 then ((some (y52002 ++ l0_1 : List Int)).bind fun y52005 => ((customsref06_Checksum.f kj1 y52005).bind fun t52008 => ((some (([(wrap64 (Int.tdiv t52008 16777216)) % 256, (Int.tmod (wrap64 (Int.tdiv t52008 65536)) 256) % 256, (Int.tmod (wrap64 (Int.tdiv t52008 256)) 256) % 256, (Int.tmod t52008 256) % 256] : List Int) : List Int)).bind fun y52009 => (if y52005.length + y52009.length < 140737488355328 then (some ((y52005 ++ y52009), 0)) else (none))))) else (none)) = some (r1, r2) := by first | (rw [hy52002]; with_reducible exact H) | (have H2_ := (Option.bind_some _ _).symm.trans H; rw [hy52002]; with_reducible exact H2_) | (have H2_ := (Option.bind_some _ _).symm.trans H; with_reducible exact H2_) | with_reducible exact H | (rw [hy52002]; exact H) | exact H
          have Ny52002 := Aside0.mk hy52002
          clear hy52002
          by_cases c10 : y52002.length + l0_1.length < 140737488355328
          · rw [if_pos c10] at H
            have LMc10 := Aside0.mk c10
            clear c10
            obtain ⟨y52005, hy52005⟩ : ∃ y_ : List Int, y_ = (y52002 ++ l0_1) := ⟨_, rfl⟩
            replace H : ((customsref06_Checksum.f kj1 y52005).bind fun t52008 => ((some (([(wrap64 (Int.tdiv t52008 16777216)) % 256, (Int.tmod (wrap64 (Int.tdiv t52008 65536)) 256) % 256, (Int.tmod (wrap64 (Int.tdiv t52008 256)) 256) % 256, (Int.tmod t52008 256) % 256] : List Int) : List Int)).bind fun y52009 => (if y52005.length + y52009.length < 140737488355328 then (some ((y52005 ++ y52009), 0)) else (none)))) = some (r1, r2) := by first | (rw [hy52005]; with_reducible exact H) | (have H2_ := (Option.bind_some _ _).symm.trans H; rw [hy52005]; with_reducible exact H2_) | (have H2_ := (Option.bind_some _ _).symm.trans H; with_reducible exact H2_) | with_reducible exact H | (rw [hy52005]; exact H) | exact H
            have Ny52005 := Aside0.mk hy52005
            clear hy52005
            replace H := Option.bind_eq_some_iff.mp H
            obtain ⟨t52008, A110, H⟩ := H
            replace H : ((some (([(wrap64 (Int.tdiv t52008 16777216)) % 256, (Int.tmod (wrap64 (Int.tdiv t52008 65536)) 256) % 256, (Int.tmod (wrap64 (Int.tdiv t52008 256)) 256) % 256, (Int.tmod t52008 256) % 256] : List Int) : List Int)).bind fun y52009 => (if y52005.length + y52009.length < 140737488355328 then (some ((y52005 ++ y52009), 0)) else (none))) = some (r1, r2) := H
            have A11 := Aside0.mk A110
            clear A110
            obtain ⟨y52009, hy52009⟩ : ∃ y_ : List Int, y_ = (([(wrap64 (Int.tdiv t52008 16777216)) % 256, (Int.tmod (wrap64 (Int.tdiv t52008 65536)) 256) % 256, (Int.tmod (wrap64 (Int.tdiv t52008 256)) 256) % 256, (Int.tmod t52008 256) % 256] : List Int)) := ⟨_, rfl⟩
            replace H : (if y52005.length + y52009.length < 140737488355328 then (some ((y52005 ++ y52009), 0)) else (none)) = some (r1, r2) := by first | (rw [hy52009]; with_reducible exact H) | (have H2_ := (Option.bind_some _ _).symm.trans H; rw [hy52009]; with_reducible exact H2_) | (have H2_ := (Option.bind_some _ _).symm.trans H; with_reducible exact H2_) | with_reducible exact H | (rw [hy52009]; exact H) | exact H
            have Ny52009 := Aside0.mk hy52009
            clear hy52009
            replace H := if_some H; obtain ⟨c12, H⟩ := H
            have LMc12 := Aside0.mk c12
            clear c12
            obtain ⟨y52012, hy52012⟩ : ∃ y_ : List Int, y_ = (y52005 ++ y52009) := ⟨_, rfl⟩
            replace H : (some (y52012, 0)) = some (r1, r2) := by first | (rw [hy52012]; with_reducible exact H) | (have H2_ := (Option.bind_some _ _).symm.trans H; rw [hy52012]; with_reducible exact H2_) | (have H2_ := (Option.bind_some _ _).symm.trans H; with_reducible exact H2_) | with_reducible exact H | (rw [hy52012]; exact H) | exact H
            have Ny52012 := Aside0.mk hy52012
            clear hy52012
            simp only [Option.some.injEq, Prod.mk.injEq] at H
            obtain ⟨rfl, rfl⟩ := H
            have hcz13_0 : wc.cell? ⟨gb52001, 0, none⟩ = some (.int .i64 a0_0) := (blk_cell BK52001.out 0).trans rfl
            have hcz13_1 : wc.cell? ⟨gb52001, 1, none⟩ = some (.slice A0_1 l0_1.length c0_1) := (blk_cell BK52001.out 1).trans rfl
            have hfz13_0 := blk_frozen BK52001.out 0
            have hfz13_1 := blk_frozen BK52001.out 1
            go_wp2_with (first | ((with_reducible refine gate_dst (N := 37) rfl ?_); refine Kd.R_lit (Kd.int .u8) _ 5 ?hg (N := 37) ?hd (xs := ([(wrap64 ((l0_1.length : Int) / 256)) % 256, (l0_1.length : Int) % 256, (wrap64 (255 - (wrap64 ((l0_1.length : Int) / 256)))) % 256, 255 - ((l0_1.length : Int) % 256), (a0_0) % 256] : List Int)) (inner := [.int .u8 ((wrap64 ((l0_1.length : Int) / 256)) % 256), .int .u8 ((l0_1.length : Int) % 256), .int .u8 ((wrap64 (255 - (wrap64 ((l0_1.length : Int) / 256)))) % 256), .int .u8 (255 - ((l0_1.length : Int) % 256)), .int .u8 ((a0_0) % 256)]) (ok := fun _ => True) (okp := fun _ => True) ?hr ?hp (fun _ hk => hk) trivial (Below.refl _ _) (Nat.le_refl _) (by simp) ?_; (case hd => rfl); (case hg => rfl); (case hr => first | (go_simp; done) | (go_simp; rfl)); (case hp => exact (Reps.one (show Kd.M (Kd.int .u8) _ _ _ ((wrap64 ((l0_1.length : Int) / 256)) % 256) [.int .u8 ((wrap64 ((l0_1.length : Int) / 256)) % 256)] from rfl) (Reps.one (show Kd.M (Kd.int .u8) _ _ _ ((l0_1.length : Int) % 256) [.int .u8 ((l0_1.length : Int) % 256)] from rfl) (Reps.one (show Kd.M (Kd.int .u8) _ _ _ ((wrap64 (255 - (wrap64 ((l0_1.length : Int) / 256)))) % 256) [.int .u8 ((wrap64 (255 - (wrap64 ((l0_1.length : Int) / 256)))) % 256)] from rfl) (Reps.one (show Kd.M (Kd.int .u8) _ _ _ (255 - ((l0_1.length : Int) % 256)) [.int .u8 (255 - ((l0_1.length : Int) % 256))] from rfl) (Reps.one (show Kd.M (Kd.int .u8) _ _ _ ((a0_0) % 256) [.int .u8 ((a0_0) % 256)] from rfl) (Reps.none _ _))))))); intro v52003 w14 ho15 hb hg_ hnew_; clear hg_ hnew_; (first | rw [← Ny52002.out] at ho15 | (simp only [Int.reduceToNat] at ho15; rw [← Ny52002.out] at ho15)); have n0_ := Aside0.mk (Kd.R_lower ho15 (below_size (below_extB HB.out))); have n1_ := Aside0.mk (blk_below (blk_ext BK52001.out) hb); have n2_ := Aside0.mk (below_step (below_extB HB.out) hb); clear BK52001; clear HB; have HO52004 := n0_; have BK52001 := n1_; have HB := n2_; clear n0_ n1_ n2_; clear hb ho15; have hcz16_0 : w14.cell? ⟨gb52001, 0, none⟩ = some (.int .i64 a0_0) := (blk_cell BK52001.out 0).trans rfl; have hcz16_1 : w14.cell? ⟨gb52001, 1, none⟩ = some (.slice A0_1 l0_1.length c0_1) := (blk_cell BK52001.out 1).trans rfl; have hfz16_0 := blk_frozen BK52001.out 0; have hfz16_1 := blk_frozen BK52001.out 1) | ((with_reducible refine gate_builtin (b := .append) (xs := #[.tmp 37, .tmp 39]) rfl ?_); at_builtin; refine Kd.R_append_rows (Kd.int .u8) (w0 := w) w.heap.size rfl (.tmp 37) (.tmp 39) 22 5 (.int .u8 0) 1 rfl Try.underlying22 info5 rfl (by decide) (by omega) v52003 y52002 l0_1 _ _ _ (fun _ => True) (fun _ => False) rfl rfl ?aO ?aR (fun _ _ h => h) (fun _ h => h.elim) ?aF ?aB ?aS ?aL ?_; (case aR => repeat (first | exact (Kd.C_below HR0_1.out HB.out) | (with_reducible refine Kd.C_alloc ?_ _) | (with_reducible refine Kd.C_drewN ?_ _) | (with_reducible refine Kd.C_drew ?_))); (case aB => exact (below_extB HB.out)); (case aF => exact (fun _ _ => trivial)); (case aO => exact (Kd.R_ext HO52004.out)); (case aS => exact (below_size (below_extB HB.out))); (case aL => have := LMc10.out; omega); intro v52006 w17 ho hb hg hat; rw [← Ny52005.out] at ho; have n0_ := Aside0.mk (blk_grown (g := gb52001) (o := .cells #[.int .i64 a0_0, .slice A0_1 l0_1.length c0_1] 57 (0, 0)) (blk_ext BK52001.out) hg (Kd.R_ne HO52004.out BK52001.out (by decide))); have n1_ := Aside0.mk (hb); have n2_ := Aside0.mk (ho); clear BK52001; clear HB; clear HO52004; have BK52001 := n0_; have HB := n1_; have HO52007 := n2_; clear n0_ n1_ n2_; clear ho hb hg hat; obtain ⟨Ao18, co18, eo18⟩ := Kd.R_slice HO52007.out; subst eo18) | ((with_reducible refine gate_callee (f := 77) rfl ?_); refine goesL_ (some 42) rfl rfl Try.func77 (by kernel_rfl) rfl #[.slice Ao18 y52005.length co18] rfl (by (try simp only [List.map_toArray, List.map_cons, List.map_nil]); first | done | rfl | (simp only [List.length_drop, List.length_take]; rfl)) ?_; (with_reducible refine (customsref06_Checksum.calls kj1 _ _ y52005 t52008 _ ?side1 ?side2 A11.out).mono ?_); (case side1 => exact Kd.C_ext (Kd.R_reads' HO52007.out).2.2); (case side2 => exact (Kd.R_reads' HO52007.out).2.1); rintro e w' ⟨rfl, ⟨nd, rfl⟩⟩; refine ⟨_, rfl, ?_⟩) | ((with_reducible refine gate_dst (N := 58) rfl ?_); refine Kd.R_lit (Kd.int .u8) _ 5 ?hg (N := 58) ?hd (xs := ([(wrap64 (Int.tdiv t52008 16777216)) % 256, (Int.tmod (wrap64 (Int.tdiv t52008 65536)) 256) % 256, (Int.tmod (wrap64 (Int.tdiv t52008 256)) 256) % 256, (Int.tmod t52008 256) % 256] : List Int)) (inner := [.int .u8 ((wrap64 (Int.tdiv t52008 16777216)) % 256), .int .u8 ((Int.tmod (wrap64 (Int.tdiv t52008 65536)) 256) % 256), .int .u8 ((Int.tmod (wrap64 (Int.tdiv t52008 256)) 256) % 256), .int .u8 ((Int.tmod t52008 256) % 256)]) (ok := fun _ => True) (okp := fun _ => True) ?hr ?hp (fun _ hk => hk) trivial (Below.refl _ _) (Nat.le_refl _) (by simp) ?_; (case hd => rfl); (case hg => rfl); (case hr => first | (go_simp; done) | (go_simp; rfl)); (case hp => exact (Reps.one (show Kd.M (Kd.int .u8) _ _ _ ((wrap64 (Int.tdiv t52008 16777216)) % 256) [.int .u8 ((wrap64 (Int.tdiv t52008 16777216)) % 256)] from rfl) (Reps.one (show Kd.M (Kd.int .u8) _ _ _ ((Int.tmod (wrap64 (Int.tdiv t52008 65536)) 256) % 256) [.int .u8 ((Int.tmod (wrap64 (Int.tdiv t52008 65536)) 256) % 256)] from rfl) (Reps.one (show Kd.M (Kd.int .u8) _ _ _ ((Int.tmod (wrap64 (Int.tdiv t52008 256)) 256) % 256) [.int .u8 ((Int.tmod (wrap64 (Int.tdiv t52008 256)) 256) % 256)] from rfl) (Reps.one (show Kd.M (Kd.int .u8) _ _ _ ((Int.tmod t52008 256) % 256) [.int .u8 ((Int.tmod t52008 256) % 256)] from rfl) (Reps.none _ _)))))); intro v52010 w19 ho20 hb hg_ hnew_; clear hg_ hnew_; (first | rw [← Ny52009.out] at ho20 | (simp only [Int.reduceToNat] at ho20; rw [← Ny52009.out] at ho20)); have n0_ := Aside0.mk (Kd.R_elder' (Kd.R_ext HO52007.out) (Kd.R_base ho20) hb); have n1_ := Aside0.mk (Kd.R_lower (Kd.R_new' ho20 (Kd.R_lt (Kd.R_ext HO52007.out))) (below_size (below_extB HB.out))); have n2_ := Aside0.mk (blk_below (blk_ext BK52001.out) hb); have n3_ := Aside0.mk (below_step (below_extB HB.out) hb); clear HO52007; clear BK52001; clear HB; have HO52007 := n0_; have HO52011 := n1_; have BK52001 := n2_; have HB := n3_; clear n0_ n1_ n2_ n3_; clear hb ho20; obtain ⟨Ao22, co22, eo22⟩ := Kd.R_slice HO52011.out; subst eo22) | ((with_reducible refine gate_builtin (b := .append) (xs := #[.tmp 43, .tmp 58]) rfl ?_); at_builtin; refine Kd.R_append_rows (Kd.int .u8) (w0 := w) w.heap.size rfl (.tmp 43) (.tmp 58) 22 5 (.int .u8 0) 1 rfl Try.underlying22 info5 rfl (by decide) (by omega) (.slice Ao18 y52005.length co18) y52005 y52009 _ _ _ (fun k_ => some k_ ≠ (.slice Ao22 y52009.length co22 : Value).ownBlock) (fun _ => False) rfl rfl ?aO ?aR (fun _ _ h => h) (fun _ h => h.elim) ?aF ?aB ?aS ?aL ?_; (case aR => exact Kd.C_ext (Kd.R_reads' HO52011.out).2.2); (case aB => exact (below_extB HB.out)); (case aF => exact (fun k_ hk => Kd.fresh' (Kd.R_lt (Kd.R_ext HO52011.out)) k_ hk)); (case aO => exact (Kd.R_ext (Kd.R_mono HO52007.out (fun _ hk => hk.2)))); (case aS => exact (below_size (below_extB HB.out))); (case aL => have := LMc12.out; omega); intro v52013 w21 ho hb hg hat; rw [← Ny52012.out] at ho; have n0_ := Aside0.mk (blk_grown (g := gb52001) (o := .cells #[.int .i64 a0_0, .slice A0_1 l0_1.length c0_1] 57 (0, 0)) (blk_ext BK52001.out) hg (Kd.R_ne HO52007.out BK52001.out (by decide))); have n1_ := Aside0.mk (Kd.R_after (ok := (fun _ => True)) (Kd.R_ext HO52011.out) hg hat); have n2_ := Aside0.mk (hb); have n3_ := Aside0.mk (ho); clear BK52001; clear HO52011; clear HB; clear HO52007; have BK52001 := n0_; have HO52011 := n1_; have HB := n2_; have HO52014 := n3_; clear n0_ n1_ n2_ n3_; clear ho hb hg hat))
            go_ret2
            exact ⟨_, by first | rfl | (simp [errW_none, errW_some] <;> rfl) | (simp [*, errW_none, errW_some] <;> rfl), Kd.R_ext (Kd.R_mono HO52014.out (fun _ hk => trivial)), below_extB HB.out⟩
          · rw [if_neg c10] at H
            exact absurd H (by simp)

end Go.Proofs.Ytfljnggpnndmkaa.Z
