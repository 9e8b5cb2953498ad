/- Written by a program of this session: each Go function as a plain Lean function, and that the machine's call does what it says. Conditions: none but those each theorem states. -/
import Derived.Test.YtfljnggpnndmkaaZ0
namespace Go.Proofs.Ytfljnggpnndmkaa.Z
open Go.RowKit Go.Proofs.YtfljnggpnndmkaaW.PrintWords Go.Proofs.YtfljnggpnndmkaaW.PrintLast Go.Proofs.YtfljnggpnndmkaaW.PrintMore
attribute [local go_sem] max2_int min2_int max_two min_two max_three min_three max_four min_four   -- for this text's walks alone
set_option linter.unusedVariables false
set_option linter.unusedSimpArgs false

/-! ### customsref33_Write: function 17 -/
def customsref33_Write.f (l0_0 : List Int) (l0_1 : List Int) (l1 : List Int) : Option (List Int × List Int × Int) := if (wrap64 ((l0_0.length : Int) + (l0_1.length : Int))) > (wrap64 (1000000 - (l1.length : Int))) then (some (([] : List Int), ([] : List Int), 8)) else ((some (([] : List Int) : List Int)).bind fun y17003 => (if y17003.length + l0_1.length < 140737488355328 then ((some (y17003 ++ l0_1 : List Int)).bind fun y17006 => (if y17006.length + l1.length < 140737488355328 then (some (l0_0, (y17006 ++ l1), 0)) else (none))) else (none)))
def customsref33_Write.T3 : Bool × List (List Nat × List Nat) := (true, [([], []), ([0], [0]), ([], []), ([], []), ([3], [3]), ([2, 4], [2, 4]), ([], []), ([5, 6, 5], [5, 6]), ([1, 7], [1, 7]), ([8, 7, 0, 1, 2, 3, 4, 5, 6, 7, 8], [8]), ([9, 0, 1, 2, 3, 4, 5, 6, 7, 8, 9], [])])
def customsref33_Write.B3 : List Nat := [0, 1, 0, 0, 8, 28, 0, 124, 255, 511, 1023]
theorem customsref33_Write.tab3 : rtab .any (opsOf Try.f17 3) = customsref33_Write.T3 := by kernel_rfl
theorem customsref33_Write.bits3 : waitsOk customsref33_Write.T3.2 customsref33_Write.B3 = true := by kernel_rfl
set_option maxHeartbeats 8000000 in
set_option maxRecDepth 100000 in
theorem customsref33_Write.calls (P0_0_ : Nat → Prop) (A0_0 : Option Addr) (c0_0 : Nat) (l0_0 : List Int) (A0_1 : Option Addr) (c0_1 : Nat) (l0_1 : List Int) (A1 : Option Addr) (c1 : Nat) (l1 : List Int) (r1 : List Int) (r2 : List Int) (r3 : Int) (w : World) (hs0_0 : Kd.V (Kd.int .u8) 5 w w.heap.size (fun k_ => P0_0_ k_) (.slice A0_0 l0_0.length c0_0) l0_0) (hr0_1 : Kd.C (Kd.int .u8) w A0_1 l0_1.length l0_1) (hc0_1 : l0_1.length ≤ c0_1) (hr1 : Kd.C (Kd.int .u8) w A1 l1.length l1) (hc1 : l1.length ≤ c1) (h : customsref33_Write.f l0_0 l0_1 l1 = some (r1, r2, r3)) :
    Calls Try.prog 17 #[.agg #[.slice A0_0 l0_0.length c0_0, .slice A0_1 l0_1.length c0_1], .slice A1 l1.length c1] w fun e w' => ∃ v0_ v1_ : Value, e = .returned (.tuple #[.agg #[v0_, v1_], .int .i64 r3]) ∧ Kd.V (Kd.int .u8) 5 w' w.heap.size (fun k_ => (P0_0_ k_ ∨ w.heap.size ≤ k_) ∧ some k_ ≠ (v1_ : Value).ownBlock) v0_ r1 ∧ Kd.R (Kd.int .u8) 5 w' w.heap.size (fun k_ => (w.heap.size ≤ k_)) v1_ r2 ∧ Below w.heap.size w w' := by
  have hu24 := Try.underlying24
  have HO0_0 := Aside0.mk (show Kd.V (Kd.int .u8) 5 w w.heap.size (fun k_ => (P0_0_ k_ ∨ w.heap.size ≤ k_)) (.slice A0_0 l0_0.length c0_0) l0_0 from Kd.V_mono hs0_0 (fun k_ hk => .inl hk))
  have HR0_1 := Aside0.mk hr0_1
  have HC0_1 := Aside0.mk hc0_1
  clear hr0_1 hc0_1
  have HR1 := Aside0.mk hr1
  have HC1 := Aside0.mk hc1
  clear hr1 hc1
  have HB := Aside0.mk (Below.refl w.heap.size w)
  have H : (if (wrap64 ((l0_0.length : Int) + (l0_1.length : Int))) > (wrap64 (1000000 - (l1.length : Int))) then (some (([] : List Int), ([] : List Int), 8)) else ((some (([] : List Int) : List Int)).bind fun y17003 => (if y17003.length + l0_1.length < 140737488355328 then ((some (y17003 ++ l0_1 : List Int)).bind fun y17006 => (if y17006.length + l1.length < 140737488355328 then (some (l0_0, (y17006 ++ l1), 0)) else (none))) else (none)))) = some (r1, r2, r3) := h
  clear h
  by_cases c3 : (wrap64 ((l0_0.length : Int) + (l0_1.length : Int))) > (wrap64 (1000000 - (l1.length : Int)))
  · rw [if_pos c3] at H
    have c3b0 : decide ((wrap64 (1000000 - (l1.length : Int))) < (wrap64 ((l0_0.length : Int) + (l0_1.length : Int)))) = true := decide_eq_true c3
    clear c3
    simp only [Option.some.injEq, Prod.mk.injEq] at H
    obtain ⟨rfl, rfl, rfl⟩ := H
    go_enter Try.func17, Try.ntmps17
    go_wp2_with (first | ((with_reducible refine gate_dst (N := 2) rfl ?_); refine box_event ?hg (N := 2) ?hd (cs := #[.slice A0_0 l0_0.length c0_0, .slice A0_1 l0_1.length c0_1]) (t := 24) ?hr ?_; (case hd => rfl); (case hg => rfl); (case hr => first | (go_simp; done) | (go_simp; rfl)); intro gb17001 hg w4 hbox hb; have n0_ := Aside0.mk (Kd.V_below (Kd.V_elderB (Kd.V_ext HO0_0.out) gb17001 (Nat.le_of_eq hg.symm)) hb); have n1_ := Aside0.mk (below_step (below_ext HB.out) hb); have n2_ := Aside0.mk (hbox); have n3_ := Aside0.mk ((by rw [hg]; exact (below_size (below_ext HB.out)) : w.heap.size ≤ gb17001)); have n4_ := Aside0.mk ((by rw [hg]; exact (below_size (below_ext HB.out)) : w.heap.size ≤ gb17001)); clear HO0_0; clear HB; have HO0_0 := n0_; have HB := n1_; have BK17001 := n2_; have GW17001 := n3_; have GE17001 := n4_; have GI17001 := GE_.mk GE17001.out; clear n0_ n1_ n2_ n3_ n4_; clear hb hbox hg) | ((with_reducible refine gate_dst (N := 4) rfl ?_); refine box_event ?hg (N := 4) ?hd (cs := #[.slice none 0 0, .slice none 0 0]) (t := 24) ?hr ?_; (case hd => rfl); (case hg => rfl); (case hr => first | (go_simp; done) | (go_simp; rfl)); intro gb17002 hg w5 hbox hb; have n0_ := Aside0.mk (Kd.V_below (Kd.V_elderB (Kd.V_ext HO0_0.out) gb17002 (Nat.le_of_eq hg.symm)) hb); have n1_ := Aside0.mk (blk_below (blk_ext BK17001.out) hb); have n2_ := Aside0.mk (below_step (below_extB HB.out) hb); have n3_ := Aside0.mk (hbox); have n4_ := Aside0.mk ((by rw [hg]; exact (below_size (below_extB HB.out)) : w.heap.size ≤ gb17002)); have n5_ := Aside0.mk ((by rw [hg]; exact (below_size (below_extB HB.out)) : w.heap.size ≤ gb17002)); have n6_ := Aside0.mk ((by rw [hg]; exact Nat.ne_of_lt (blk_lt (blk_ext BK17001.out)) : gb17001 ≠ gb17002)); have n7_ := Aside0.mk ((by rw [hg]; exact Nat.ne_of_gt (blk_lt (blk_ext BK17001.out)) : gb17002 ≠ gb17001)); clear HO0_0; clear BK17001; clear HB; have HO0_0 := n0_; have BK17001 := n1_; have HB := n2_; have BK17002 := n3_; have GW17002 := n4_; have GE17002 := n5_; have GI17002 := GE_.mk GE17002.out; have NB17001_17002 := n6_; have NB17002_17001 := n7_; clear n0_ n1_ n2_ n3_ n4_ n5_ n6_ n7_; clear hb hbox hg; have hnb6 := NB17001_17002.out; have hnc6 := NB17002_17001.out; have hcz7_0 : w5.cell? ⟨gb17001, 0, none⟩ = some (.slice A0_0 l0_0.length c0_0) := (blk_cell BK17001.out 0).trans rfl; have hcz7_1 : w5.cell? ⟨gb17001, 1, none⟩ = some (.slice A0_1 l0_1.length c0_1) := (blk_cell BK17001.out 1).trans rfl; have hfz7_0 := blk_frozen BK17001.out 0; have hfz7_1 := blk_frozen BK17001.out 1; have hcz8_0 : w5.cell? ⟨gb17002, 0, none⟩ = some (.slice none 0 0) := (blk_cell BK17002.out 0).trans rfl; have hcz8_1 : w5.cell? ⟨gb17002, 1, none⟩ = some (.slice none 0 0) := (blk_cell BK17002.out 1).trans rfl; have hfz8_0 := blk_frozen BK17002.out 0; have hfz8_1 := blk_frozen BK17002.out 1))
    refine bodyPost_ret (results_ct rfl _ _ gb17002 24 #[.slice none 0 0, .slice none 0 0] (0, 0) _ rfl (by (with_reducible repeat (first | refine blk_drewN ?_ _ | refine blk_drew ?_ | refine blk_alloc ?_ _)); refine blk_put (cs := #[.slice none 0 0, .slice none 0 0]) ?_ 1 _ rfl; (with_reducible repeat (first | refine blk_drewN ?_ _ | refine blk_drew ?_ | refine blk_alloc ?_ _)); refine blk_put (cs := #[.slice none 0 0, .slice none 0 0]) ?_ 0 _ rfl; exact blk_ext BK17002.out) Try.underlying24 rfl (by kernel_rfl)) rfl ?_
    exact ⟨_, _, by first | rfl | (simp [errW_none, errW_some] <;> rfl) | (simp [*, errW_none, errW_some] <;> rfl), Kd.V_nil _ _ _ _ _, by first | exact Kd.R_nil _ _ _ _ _ | exact Kd.N_nil _ _ _ _ _ | exact Kd.V_nil _ _ _ _ _ | exact Kd.Q_nil _ _ _ _ _ | exact Kd.S_nil _ _ _ _ _, below_extB HB.out⟩
  · rw [if_neg c3] at H
    have c3b0 : decide ((wrap64 (1000000 - (l1.length : Int))) < (wrap64 ((l0_0.length : Int) + (l0_1.length : Int)))) = false := decide_eq_false c3
    clear c3
    obtain ⟨y17003, hy17003⟩ : ∃ y_ : List Int, y_ = (([] : List Int)) := ⟨_, rfl⟩
    replace H : (if y17003.length + l0_1.length < 140737488355328 then ((some (y17003 ++ l0_1 : List Int)).bind fun y17006 => (if y17006.length + l1.length < 140737488355328 then (some (l0_0, (y17006 ++ l1), 0)) else (none))) else (none)) = some (r1, r2, r3) := by first | (rw [hy17003]; with_reducible exact H) | (have H2_ := (Option.bind_some _ _).symm.trans H; rw [hy17003]; with_reducible exact H2_) | (have H2_ := (Option.bind_some _ _).symm.trans H; with_reducible exact H2_) | with_reducible exact H | (rw [hy17003]; exact H) | exact H
    have Ny17003 := Aside0.mk hy17003
    clear hy17003
    by_cases c9 : y17003.length + l0_1.length < 140737488355328
    · rw [if_pos c9] at H
      have LMc9 := Aside0.mk c9
      clear c9
      obtain ⟨y17006, hy17006⟩ : ∃ y_ : List Int, y_ = (y17003 ++ l0_1) := ⟨_, rfl⟩
      replace H : (if y17006.length + l1.length < 140737488355328 then (some (l0_0, (y17006 ++ l1), 0)) else (none)) = some (r1, r2, r3) := by first | (rw [hy17006]; with_reducible exact H) | (have H2_ := (Option.bind_some _ _).symm.trans H; rw [hy17006]; with_reducible exact H2_) | (have H2_ := (Option.bind_some _ _).symm.trans H; with_reducible exact H2_) | with_reducible exact H | (rw [hy17006]; exact H) | exact H
      have Ny17006 := Aside0.mk hy17006
      clear hy17006
      replace H := if_some H; obtain ⟨c10, H⟩ := H
      have LMc10 := Aside0.mk c10
      clear c10
      obtain ⟨y17009, hy17009⟩ : ∃ y_ : List Int, y_ = (y17006 ++ l1) := ⟨_, rfl⟩
      replace H : (some (l0_0, y17009, 0)) = some (r1, r2, r3) := by first | (rw [hy17009]; with_reducible exact H) | (have H2_ := (Option.bind_some _ _).symm.trans H; rw [hy17009]; with_reducible exact H2_) | (have H2_ := (Option.bind_some _ _).symm.trans H; with_reducible exact H2_) | with_reducible exact H | (rw [hy17009]; exact H) | exact H
      have Ny17009 := Aside0.mk hy17009
      clear hy17009
      simp only [Option.some.injEq, Prod.mk.injEq] at H
      obtain ⟨rfl, rfl, rfl⟩ := H
      go_enter Try.func17, Try.ntmps17
      try go_wp2_with (first | ((with_reducible refine gate_dst (N := 2) rfl ?_); refine box_event ?hg (N := 2) ?hd (cs := #[.slice A0_0 l0_0.length c0_0, .slice A0_1 l0_1.length c0_1]) (t := 24) ?hr ?_; (case hd => rfl); (case hg => rfl); (case hr => first | (go_simp; done) | (go_simp; rfl)); intro gb17001 hg w11 hbox hb; have n0_ := Aside0.mk (Kd.V_below (Kd.V_elderB (Kd.V_ext HO0_0.out) gb17001 (Nat.le_of_eq hg.symm)) hb); have n1_ := Aside0.mk (below_step (below_ext HB.out) hb); have n2_ := Aside0.mk (hbox); have n3_ := Aside0.mk ((by rw [hg]; exact (below_size (below_ext HB.out)) : w.heap.size ≤ gb17001)); have n4_ := Aside0.mk ((by rw [hg]; exact (below_size (below_ext HB.out)) : w.heap.size ≤ gb17001)); clear HO0_0; clear HB; have HO0_0 := n0_; have HB := n1_; have BK17001 := n2_; have GW17001 := n3_; have GE17001 := n4_; have GI17001 := GE_.mk GE17001.out; clear n0_ n1_ n2_ n3_ n4_; clear hb hbox hg) | ((with_reducible refine gate_dst (N := 4) rfl ?_); refine box_event ?hg (N := 4) ?hd (cs := #[.slice none 0 0, .slice none 0 0]) (t := 24) ?hr ?_; (case hd => rfl); (case hg => rfl); (case hr => first | (go_simp; done) | (go_simp; rfl)); intro gb17002 hg w12 hbox hb; have n0_ := Aside0.mk (Kd.V_below (Kd.V_elderB (Kd.V_ext HO0_0.out) gb17002 (Nat.le_of_eq hg.symm)) hb); have n1_ := Aside0.mk (blk_below (blk_ext BK17001.out) hb); have n2_ := Aside0.mk (below_step (below_extB HB.out) hb); have n3_ := Aside0.mk (hbox); have n4_ := Aside0.mk ((by rw [hg]; exact (below_size (below_extB HB.out)) : w.heap.size ≤ gb17002)); have n5_ := Aside0.mk ((by rw [hg]; exact (below_size (below_extB HB.out)) : w.heap.size ≤ gb17002)); have n6_ := Aside0.mk ((by rw [hg]; exact Nat.ne_of_lt (blk_lt (blk_ext BK17001.out)) : gb17001 ≠ gb17002)); have n7_ := Aside0.mk ((by rw [hg]; exact Nat.ne_of_gt (blk_lt (blk_ext BK17001.out)) : gb17002 ≠ gb17001)); clear HO0_0; clear BK17001; clear HB; have HO0_0 := n0_; have BK17001 := n1_; have HB := n2_; have BK17002 := n3_; have GW17002 := n4_; have GE17002 := n5_; have GI17002 := GE_.mk GE17002.out; have NB17001_17002 := n6_; have NB17002_17001 := n7_; clear n0_ n1_ n2_ n3_ n4_ n5_ n6_ n7_; clear hb hbox hg; have hnb13 := NB17001_17002.out; have hnc13 := NB17002_17001.out; have hcz14_0 : w12.cell? ⟨gb17001, 0, none⟩ = some (.slice A0_0 l0_0.length c0_0) := (blk_cell BK17001.out 0).trans rfl; have hcz14_1 : w12.cell? ⟨gb17001, 1, none⟩ = some (.slice A0_1 l0_1.length c0_1) := (blk_cell BK17001.out 1).trans rfl; have hfz14_0 := blk_frozen BK17001.out 0; have hfz14_1 := blk_frozen BK17001.out 1))
      have n0_ := Aside0.mk (Kd.V_drew HO0_0.out)
      have n1_ := Aside0.mk (blk_drew BK17001.out)
      have n2_ := Aside0.mk (blk_drew BK17002.out)
      have n3_ := Aside0.mk (below_drew1 HB.out)
      clear HO0_0
      clear BK17001
      clear BK17002
      clear HB
      have HO0_0 := n0_
      have BK17001 := n1_
      have BK17002 := n2_
      have HB := n3_
      clear n0_ n1_ n2_ n3_
      refine start_ (n := 11) (S := fun w' => w'.cell? ⟨gb17001, 0, none⟩ = some (.slice A0_0 l0_0.length c0_0) ∧ w'.cell? ⟨gb17001, 1, none⟩ = some (.slice A0_1 l0_1.length c0_1)) (ds := []) #[false, false, false, false, false, false, false, false, false, false, false] (by kernel_rfl) rfl rfl ⟨(blk_cell BK17001.out 0).trans rfl, (blk_cell BK17001.out 1).trans rfl⟩ (fun hHeld => ?_); refine with_tabW customsref33_Write.tab3 customsref33_Write.bits3 (fun HT_ HW_ => ?_)
      generalize w12.drew = w15 at HO0_0 BK17001 BK17002 HB hHeld ⊢
      refine pure_ (i := 0) (N := some 18) (v := ?_) (a' := ?_) #[true, false, false, false, false, false, false, false, false, false, false] rfl rfl (any_of HT_.out (by kernel_rfl)) (fun _ _ _ h => h) (Or.inl ⟨by rfl, ?_⟩) ?_ ?_
      rotate_left
      · intro w'
        go_simp
        with_reducible rfl
      rotate_left
      · simp only [Act.put, List.setIfInBounds_toArray, List.set_cons_zero, List.set_cons_succ, i64_w, i32_w]
        rfl
      refine pure_ (i := 3) (N := some 21) (v := ?_) (a' := ?_) #[true, false, false, true, false, false, false, false, false, false, false] rfl rfl (any_of HT_.out (by kernel_rfl)) (fun _ _ _ h => h) (Or.inl ⟨by rfl, ?_⟩) ?_ ?_
      rotate_left
      · intro w'
        go_simp
        with_reducible rfl
      rotate_left
      · simp only [Act.put, List.setIfInBounds_toArray, List.set_cons_zero, List.set_cons_succ, i64_w, i32_w]
        rfl
      refine pure_ (i := 6) (N := some 24) (v := ?_) (a' := ?_) #[true, false, false, true, false, false, true, false, false, false, false] rfl rfl (any_of HT_.out (by kernel_rfl)) (fun _ _ _ h => h) (Or.inl ⟨by rfl, ?_⟩) ?_ ?_
      rotate_left
      · intro w'
        go_simp
        with_reducible rfl
      rotate_left
      · simp only [Act.put, List.setIfInBounds_toArray, List.set_cons_zero, List.set_cons_succ, i64_w, i32_w]
        rfl
      refine take_ (i := 1) (N := some 19) (v := ?_) (a' := ?_) #[true, true, false, true, false, false, true, false, false, false, false] rfl rfl (take_ofW HT_.out HW_.out (by kernel_rfl)) (fun _ _ _ h => h) (Or.inl ⟨by rfl, ?_⟩) hHeld ?_ ?_
      rotate_left
      · rintro w' ⟨s0, s1⟩
        go_simp
        with_reducible rfl
      rotate_left
      · simp only [Act.put, List.setIfInBounds_toArray, List.set_cons_zero, List.set_cons_succ, i64_w, i32_w]
        rfl
      refine take_ (i := 4) (N := some 22) (v := ?_) (a' := ?_) #[true, true, false, true, true, false, true, false, false, false, false] rfl rfl (take_ofW HT_.out HW_.out (by kernel_rfl)) (fun _ _ _ h => h) (Or.inl ⟨by rfl, ?_⟩) hHeld ?_ ?_
      rotate_left
      · rintro w' ⟨s0, s1⟩
        go_simp
        with_reducible rfl
      rotate_left
      · simp only [Act.put, List.setIfInBounds_toArray, List.set_cons_zero, List.set_cons_succ, i64_w, i32_w]
        rfl
      refine one_ (i := 2) (N := some 20) #[true, true, true, true, true, false, true, false, false, false, false] rfl rfl (one_of HT_.out (by kernel_rfl)) (by decide) (fun K hK => ?_)
      refine Kd.R_lit_step (Kd.int .u8) _ 5 ?hg (N := 20) ?hd (xs := ([] : List Int)) (inner := []) (ok := fun _ => True) (okp := fun _ => True) ?hr ?hp (fun _ hk => hk) trivial (Below.refl _ _) (Nat.le_refl _) (by simp) ?_; (case hd => rfl); (case hg => rfl); (case hr => first | (go_simp; done) | (go_simp; rfl)); (case hp => exact (Reps.none _ _))
      intro v17004 w16 ho17 hb hg_ hnew_
      clear hg_ hnew_
      (first | rw [← Ny17003.out] at ho17 | (simp only [Int.reduceToNat] at ho17; rw [← Ny17003.out] at ho17))
      have n0_ := Aside0.mk (Kd.V_elder' (Kd.V_ext HO0_0.out) (Kd.R_base ho17) hb)
      have n1_ := Aside0.mk (Kd.R_lower (Kd.R_newM (M := fun k_ => (w.heap.size ≤ k_)) ho17 (below_size (below_extB HB.out)) (fun k_ h_ => h_)) (below_size (below_extB HB.out)))
      have n2_ := Aside0.mk (blk_below (blk_ext BK17001.out) hb)
      have n3_ := Aside0.mk (blk_below (blk_ext BK17002.out) hb)
      have n4_ := Aside0.mk (below_step (below_extB HB.out) hb)
      clear HO0_0
      clear BK17001
      clear BK17002
      clear HB
      have HO0_0 := n0_
      have HO17005 := n1_
      have BK17001 := n2_
      have BK17002 := n3_
      have HB := n4_
      clear n0_ n1_ n2_ n3_ n4_
      clear hb ho17
      refine hK.out _ _ ⟨(blk_cell BK17001.out 0).trans rfl, (blk_cell BK17001.out 1).trans rfl⟩ (fun hHeld => ?_)
      clear hK K
      refine norm_ (a' := ?_) ?_ ?_
      rotate_left
      · show Act.put _ (some 20) _ = _
        simp only [Act.put, List.setIfInBounds_toArray, List.set_cons_zero, List.set_cons_succ, i64_w, i32_w]
        rfl
      refine one_ (i := 5) (N := some 23) #[true, true, true, true, true, true, true, false, false, false, false] rfl rfl (one_of HT_.out (by kernel_rfl)) (by decide) (fun K hK => ?_)
      refine Kd.R_append_rows_step (Kd.int .u8) (w0 := w) w.heap.size (by rfl) (.tmp 20) (.tmp 22) 22 5 (.int .u8 0) 1 rfl Try.underlying22 info5 rfl (by decide) (by omega) v17004 y17003 l0_1 _ _ _ (fun k_ => (w.heap.size ≤ k_)) (fun _ => False) rfl rfl ?aO ?aR (fun _ _ h => h) (fun _ h => h.elim) ?aF ?aB ?aS ?aL ?_
      (case aR => repeat (first | exact (Kd.C_below HR0_1.out HB.out) | (with_reducible refine Kd.C_alloc ?_ _) | (with_reducible refine Kd.C_drewN ?_ _) | (with_reducible refine Kd.C_drew ?_)))
      (case aB => exact (below_extB HB.out))
      (case aF => exact (fun k_ hk => (Nat.le_trans (below_size (below_extB HB.out)) hk)))
      (case aO => exact (Kd.R_ext (Kd.R_mono HO17005.out (fun _ hk => hk.1))))
      (case aS => exact (below_size (below_extB HB.out)))
      (case aL => have := LMc9.out; omega)
      intro v17007 w18 ho hb hg hat
      rw [← Ny17006.out] at ho
      have n0_ := Aside0.mk (Kd.V_afterv (ok := (fun k_ => (P0_0_ k_ ∨ w.heap.size ≤ k_) ∧ k_ ≠ gb17001 ∧ k_ ≠ gb17002)) (Kd.V_ext (Kd.V_mono HO0_0.out (fun _ hk => ⟨⟨hk.1.1.1, ⟨hk.1.1.2, hk.1.2⟩⟩, hk.2⟩))) hg hat)
      have n1_ := Aside0.mk (blk_grown (g := gb17001) (o := .cells #[.slice A0_0 l0_0.length c0_0, .slice A0_1 l0_1.length c0_1] 24 (0, 0)) (blk_ext BK17001.out) hg (Kd.R_ne HO17005.out BK17001.out (by decide)))
      have n2_ := Aside0.mk (blk_grown (g := gb17002) (o := .cells #[.slice none 0 0, .slice none 0 0] 24 (0, 0)) (blk_ext BK17002.out) hg (Kd.R_ne HO17005.out BK17002.out (by decide)))
      have n3_ := Aside0.mk (hb)
      have n4_ := Aside0.mk (ho)
      clear HO0_0
      clear BK17001
      clear BK17002
      clear HB
      clear HO17005
      have HO0_0 := n0_
      have BK17001 := n1_
      have BK17002 := n2_
      have HB := n3_
      have HO17008 := n4_
      clear n0_ n1_ n2_ n3_ n4_
      clear ho hb hg hat
      refine hK.out _ _ ⟨(blk_cell BK17001.out 0).trans rfl, (blk_cell BK17001.out 1).trans rfl⟩ (fun hHeld => ?_)
      clear hK K
      refine norm_ (a' := ?_) ?_ ?_
      rotate_left
      · show Act.put _ (some 23) _ = _
        simp only [Act.put, List.setIfInBounds_toArray, List.set_cons_zero, List.set_cons_succ, i64_w, i32_w]
        rfl
      refine one_ (i := 7) (N := some 25) #[true, true, true, true, true, true, true, true, false, false, false] rfl rfl (one_of HT_.out (by kernel_rfl)) (by decide) (fun K hK => ?_)
      refine Kd.R_append_rows_step (Kd.int .u8) (w0 := w) w.heap.size (by rfl) (.tmp 23) (.tmp 24) 22 5 (.int .u8 0) 1 rfl Try.underlying22 info5 rfl (by decide) (by omega) v17007 y17006 l1 _ _ _ (fun k_ => (w.heap.size ≤ k_)) (fun _ => False) rfl rfl ?aO ?aR (fun _ _ h => h) (fun _ h => h.elim) ?aF ?aB ?aS ?aL ?_
      (case aR => repeat (first | exact (Kd.C_below HR1.out HB.out) | (with_reducible refine Kd.C_alloc ?_ _) | (with_reducible refine Kd.C_drewN ?_ _) | (with_reducible refine Kd.C_drew ?_)))
      (case aB => exact (below_extB HB.out))
      (case aF => exact (fun k_ hk => (Nat.le_trans (below_size (below_extB HB.out)) hk)))
      (case aO => exact (Kd.R_ext HO17008.out))
      (case aS => exact (below_size (below_extB HB.out)))
      (case aL => have := LMc10.out; omega)
      intro v17010 w19 ho hb hg hat
      rw [← Ny17009.out] at ho
      have n0_ := Aside0.mk (Kd.V_afterv (ok := (fun k_ => (P0_0_ k_ ∨ w.heap.size ≤ k_) ∧ k_ ≠ gb17001 ∧ k_ ≠ gb17002)) (Kd.V_ext HO0_0.out) hg hat)
      have n1_ := Aside0.mk (blk_grown (g := gb17001) (o := .cells #[.slice A0_0 l0_0.length c0_0, .slice A0_1 l0_1.length c0_1] 24 (0, 0)) (blk_ext BK17001.out) hg (Kd.R_ne HO17008.out BK17001.out (by decide)))
      have n2_ := Aside0.mk (blk_grown (g := gb17002) (o := .cells #[.slice none 0 0, .slice none 0 0] 24 (0, 0)) (blk_ext BK17002.out) hg (Kd.R_ne HO17008.out BK17002.out (by decide)))
      have n3_ := Aside0.mk (hb)
      have n4_ := Aside0.mk (ho)
      clear HO0_0
      clear BK17001
      clear BK17002
      clear HB
      clear HO17008
      have HO0_0 := n0_
      have BK17001 := n1_
      have BK17002 := n2_
      have HB := n3_
      have HO17011 := n4_
      clear n0_ n1_ n2_ n3_ n4_
      clear ho hb hg hat
      obtain ⟨Ao20, co20, eo20⟩ := Kd.R_slice HO17011.out
      (first | subst eo20 | (injection eo20 with f1_ f2_ f3_; have f4_ := f1_.symm; have f5_ := f3_.symm; clear f1_ f2_ f3_; subst f4_; subst f5_))
      refine hK.out _ _ ⟨(blk_cell BK17001.out 0).trans rfl, (blk_cell BK17001.out 1).trans rfl⟩ (fun hHeld => ?_)
      clear hK K
      refine norm_ (a' := ?_) ?_ ?_
      rotate_left
      · show Act.put _ (some 25) _ = _
        simp only [Act.put, List.setIfInBounds_toArray, List.set_cons_zero, List.set_cons_succ, i64_w, i32_w]
        rfl
      refine pure_ (i := 8) (N := some 26) (v := ?_) (a' := ?_) #[true, true, true, true, true, true, true, true, true, false, false] rfl rfl (any_of HT_.out (by kernel_rfl)) (fun _ _ _ h => h) (Or.inl ⟨by rfl, ?_⟩) ?_ ?_
      rotate_left
      · intro w'
        go_simp
        with_reducible rfl
      rotate_left
      · simp only [Act.put, List.setIfInBounds_toArray, List.set_cons_zero, List.set_cons_succ, i64_w, i32_w]
        rfl
      refine one_ (i := 9) (N := none) #[true, true, true, true, true, true, true, true, true, true, false] rfl rfl (one_of HT_.out (by kernel_rfl)) (by decide) (fun K hK => ?_)
      have hs21 : w19.cell? ⟨gb17002, 0, none⟩ = some (.slice none 0 0) := (blk_cell BK17002.out 0).trans rfl
      have hfs21 := blk_frozen BK17002.out 0
      have hns21_0 := NB17001_17002.out
      have hms21_0 := NB17002_17001.out
      have hs22 : w19.cell? ⟨gb17002, 1, none⟩ = some (.slice none 0 0) := (blk_cell BK17002.out 1).trans rfl
      have hfs22 := blk_frozen BK17002.out 1
      have hns22_0 := NB17001_17002.out
      have hms22_0 := NB17002_17001.out
      refine skip_ (w1 := ?_) (by rfl) rfl ?_ ?_
      rotate_left
      · go_simp
        rfl
      refine hK.out _ _ ⟨((cell_far (p := ⟨gb17002, _, none⟩) NB17001_17002.out _).trans (((cell_far (p := ⟨gb17002, _, none⟩) NB17001_17002.out _).trans (hHeld.1)))), ((cell_far (p := ⟨gb17002, _, none⟩) NB17001_17002.out _).trans (((cell_far (p := ⟨gb17002, _, none⟩) NB17001_17002.out _).trans (hHeld.2))))⟩ (fun hHeld => ?_)
      clear hK K
      refine pure_ (i := 10) (N := some 5) (v := ?_) (a' := ?_) #[true, true, true, true, true, true, true, true, true, true, true] rfl rfl (any_of HT_.out (by kernel_rfl)) (fun _ _ _ h => h) (Or.inl ⟨by rfl, ?_⟩) ?_ ?_
      rotate_left
      · intro w'
        go_simp
        with_reducible rfl
      rotate_left
      · simp only [Act.put, List.setIfInBounds_toArray, List.set_cons_zero, List.set_cons_succ, i64_w, i32_w]
        rfl
      refine done_ (done_of HT_.out (by kernel_rfl)) ?_
      try go_wp2
      refine bodyPost_ret (results_ct rfl _ _ gb17002 24 #[.slice A0_0 l0_0.length c0_0, .slice Ao20 y17009.length co20] (0, 0) _ rfl (by (with_reducible repeat (first | refine blk_drewN ?_ _ | refine blk_drew ?_ | refine blk_alloc ?_ _)); refine blk_put (cs := #[.slice A0_0 l0_0.length c0_0, .slice none 0 0]) ?_ 1 _ rfl; (with_reducible repeat (first | refine blk_drewN ?_ _ | refine blk_drew ?_ | refine blk_alloc ?_ _)); refine blk_put (cs := #[.slice none 0 0, .slice none 0 0]) ?_ 0 _ rfl; exact blk_ext BK17002.out) Try.underlying24 rfl (by kernel_rfl)) rfl ?_
      exact ⟨_, _, by first | rfl | (simp [errW_none, errW_some] <;> rfl) | (simp [*, errW_none, errW_some] <;> rfl), Kd.V_ext (Kd.V_mono (Kd.V_far (p := ⟨gb17002, 1, none⟩) (Kd.V_far (p := ⟨gb17002, 0, none⟩) (Kd.V_mono HO0_0.out (fun k_ hk => (⟨hk, hk.1.2.2⟩ : _ ∧ k_ ≠ gb17002))) (fun _ hk => hk.2) (.slice A0_0 l0_0.length c0_0)) (fun _ hk => hk.2) (.slice Ao20 y17009.length co20)) (fun _ hk => ⟨hk.1.1.1, hk.1.2⟩)), Kd.R_ext (Kd.R_mono (Kd.R_far (p := ⟨gb17002, 1, none⟩) (Kd.R_far (p := ⟨gb17002, 0, none⟩) (Kd.R_types HO17011.out BK17002.out (by decide)) (fun _ hk => hk.2) (.slice A0_0 l0_0.length c0_0)) (fun _ hk => hk.2) (.slice Ao20 y17009.length co20)) (fun _ hk => hk.1)), below_extB HB.out⟩
    · rw [if_neg c9] at H
      exact absurd H (by simp)

end Go.Proofs.Ytfljnggpnndmkaa.Z
