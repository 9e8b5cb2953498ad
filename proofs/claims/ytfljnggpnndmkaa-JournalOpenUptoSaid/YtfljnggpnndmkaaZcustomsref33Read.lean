/- Written by a program of this session: each Go function as a plain Lean function, and that the machine's call does what it says. Conditions: none but those each theorem states. -/
import Derived.Test.YtfljnggpnndmkaaZ0
namespace Go.Proofs.Ytfljnggpnndmkaa.Z
open Go.RowKit Go.Proofs.YtfljnggpnndmkaaW.PrintWords Go.Proofs.YtfljnggpnndmkaaW.PrintLast Go.Proofs.YtfljnggpnndmkaaW.PrintMore
attribute [local go_sem] max2_int min2_int max_two min_two max_three min_three max_four min_four   -- for this text's walks alone
set_option linter.unusedVariables false
set_option linter.unusedSimpArgs false

/-! ### customsref33_Read: function 23 -/
def customsref33_Read.f (l0_0 : List Int) (l0_1 : List Int) : Option (List Int) := (some (([] : List Int) : List Int)).bind fun y23002 => (if y23002.length + l0_0.length < 140737488355328 then ((some (y23002 ++ l0_0 : List Int)).bind fun y23005 => (if y23005.length + l0_1.length < 140737488355328 then (some (y23005 ++ l0_1)) else (none))) else (none))
def customsref33_Read.T1 : Bool × List (List Nat × List Nat) := (true, [([], []), ([], []), ([1], [1]), ([0, 2], [0, 2]), ([], []), ([4], [4]), ([3, 5, 3], [3, 5]), ([6, 6, 0, 1, 2, 3, 4, 5, 6], [6])])
def customsref33_Read.B1 : List Nat := [0, 0, 2, 7, 0, 16, 63, 127]
theorem customsref33_Read.tab1 : rtab .any (opsOf Try.f23 1) = customsref33_Read.T1 := by kernel_rfl
theorem customsref33_Read.bits1 : waitsOk customsref33_Read.T1.2 customsref33_Read.B1 = true := by kernel_rfl
set_option maxHeartbeats 8000000 in
set_option maxRecDepth 100000 in
theorem customsref33_Read.calls (A0_0 : Option Addr) (c0_0 : Nat) (l0_0 : List Int) (A0_1 : Option Addr) (c0_1 : Nat) (l0_1 : List Int) (r : List Int) (w : World) (hr0_0 : Kd.C (Kd.int .u8) w A0_0 l0_0.length l0_0) (hc0_0 : l0_0.length ≤ c0_0) (hr0_1 : Kd.C (Kd.int .u8) w A0_1 l0_1.length l0_1) (hc0_1 : l0_1.length ≤ c0_1) (h : customsref33_Read.f l0_0 l0_1 = some r) :
    Calls Try.prog 23 #[.agg #[.slice A0_0 l0_0.length c0_0, .slice A0_1 l0_1.length c0_1]] w fun e w' => ∃ v0_ : Value, e = .returned (v0_) ∧ Kd.R (Kd.int .u8) 5 w' w.heap.size (fun _ => True) v0_ r ∧ Below w.heap.size w w' := by
  have hu24 := Try.underlying24
  have HR0_0 := Aside0.mk hr0_0
  have HC0_0 := Aside0.mk hc0_0
  clear hr0_0 hc0_0
  have HR0_1 := Aside0.mk hr0_1
  have HC0_1 := Aside0.mk hc0_1
  clear hr0_1 hc0_1
  have HB := Aside0.mk (Below.refl w.heap.size w)
  have H : ((some (([] : List Int) : List Int)).bind fun y23002 => (if y23002.length + l0_0.length < 140737488355328 then ((some (y23002 ++ l0_0 : List Int)).bind fun y23005 => (if y23005.length + l0_1.length < 140737488355328 then (some (y23005 ++ l0_1)) else (none))) else (none))) = some r := h
  clear h
  obtain ⟨y23002, hy23002⟩ : ∃ y_ : List Int, y_ = (([] : List Int)) := ⟨_, rfl⟩
  replace H : (if y23002.length + l0_0.length < 140737488355328 then ((some (y23002 ++ l0_0 : List Int)).bind fun y23005 => (if y23005.length + l0_1.length < 140737488355328 then (some (y23005 ++ l0_1)) else (none))) else (none)) = some r := by first | (rw [hy23002]; with_reducible exact H) | (have H2_ := (Option.bind_some _ _).symm.trans H; rw [hy23002]; with_reducible exact H2_) | (have H2_ := (Option.bind_some _ _).symm.trans H; with_reducible exact H2_) | with_reducible exact H | (rw [hy23002]; exact H) | exact H
  have Ny23002 := Aside0.mk hy23002
  clear hy23002
  by_cases c2 : y23002.length + l0_0.length < 140737488355328
  · rw [if_pos c2] at H
    have LMc2 := Aside0.mk c2
    clear c2
    obtain ⟨y23005, hy23005⟩ : ∃ y_ : List Int, y_ = (y23002 ++ l0_0) := ⟨_, rfl⟩
    replace H : (if y23005.length + l0_1.length < 140737488355328 then (some (y23005 ++ l0_1)) else (none)) = some r := by first | (rw [hy23005]; with_reducible exact H) | (have H2_ := (Option.bind_some _ _).symm.trans H; rw [hy23005]; with_reducible exact H2_) | (have H2_ := (Option.bind_some _ _).symm.trans H; with_reducible exact H2_) | with_reducible exact H | (rw [hy23005]; exact H) | exact H
    have Ny23005 := Aside0.mk hy23005
    clear hy23005
    replace H := if_some H; obtain ⟨c3, H⟩ := H
    have LMc3 := Aside0.mk c3
    clear c3
    obtain ⟨y23008, hy23008⟩ : ∃ y_ : List Int, y_ = (y23005 ++ l0_1) := ⟨_, rfl⟩
    replace H : (some y23008) = some r := by first | (rw [hy23008]; with_reducible exact H) | (have H2_ := (Option.bind_some _ _).symm.trans H; rw [hy23008]; with_reducible exact H2_) | (have H2_ := (Option.bind_some _ _).symm.trans H; with_reducible exact H2_) | with_reducible exact H | (rw [hy23008]; exact H) | exact H
    have Ny23008 := Aside0.mk hy23008
    clear hy23008
    obtain rfl := Option.some.inj H
    go_enter Try.func23, Try.ntmps23
    try go_wp2_with (first | ((with_reducible refine gate_dst (N := 1) rfl ?_); refine box_event ?hg (N := 1) ?hd (cs := #[.slice A0_0 l0_0.length c0_0, .slice A0_1 l0_1.length c0_1]) (t := 24) ?hr ?_; (case hd => rfl); (case hg => rfl); (case hr => first | (go_simp; done) | (go_simp; rfl)); intro gb23001 hg w4 hbox hb; have n0_ := Aside0.mk (below_step (below_ext HB.out) hb); have n1_ := Aside0.mk (hbox); have n2_ := Aside0.mk ((by rw [hg]; exact (below_size (below_ext HB.out)) : w.heap.size ≤ gb23001)); have n3_ := Aside0.mk ((by rw [hg]; exact (below_size (below_ext HB.out)) : w.heap.size ≤ gb23001)); clear HB; have HB := n0_; have BK23001 := n1_; have GW23001 := n2_; have GE23001 := n3_; have GI23001 := GE_.mk GE23001.out; clear n0_ n1_ n2_ n3_; clear hb hbox hg))
    have n0_ := Aside0.mk (blk_drew BK23001.out)
    have n1_ := Aside0.mk (below_drew1 HB.out)
    clear BK23001
    clear HB
    have BK23001 := n0_
    have HB := n1_
    clear n0_ n1_
    refine start_ (n := 8) (S := fun w' => w'.cell? ⟨gb23001, 0, none⟩ = some (.slice A0_0 l0_0.length c0_0) ∧ w'.cell? ⟨gb23001, 1, none⟩ = some (.slice A0_1 l0_1.length c0_1)) (ds := []) #[false, false, false, false, false, false, false, false] (by kernel_rfl) rfl rfl ⟨(blk_cell BK23001.out 0).trans rfl, (blk_cell BK23001.out 1).trans rfl⟩ (fun hHeld => ?_); refine with_tabW customsref33_Read.tab1 customsref33_Read.bits1 (fun HT_ HW_ => ?_)
    generalize w4.drew = w5 at BK23001 HB hHeld ⊢
    refine pure_ (i := 1) (N := some 4) (v := ?_) (a' := ?_) #[false, true, false, false, false, false, false, false] rfl rfl (any_of HT_.out (by kernel_rfl)) (fun _ _ _ h => h) (Or.inl ⟨by rfl, ?_⟩) ?_ ?_
    rotate_left
    · intro w'
      go_simp
      with_reducible rfl
    rotate_left
    · simp only [Act.put, List.setIfInBounds_toArray, List.set_cons_zero, List.set_cons_succ, i64_w, i32_w]
      rfl
    refine pure_ (i := 4) (N := some 7) (v := ?_) (a' := ?_) #[false, true, false, false, true, false, false, false] rfl rfl (any_of HT_.out (by kernel_rfl)) (fun _ _ _ h => h) (Or.inl ⟨by rfl, ?_⟩) ?_ ?_
    rotate_left
    · intro w'
      go_simp
      with_reducible rfl
    rotate_left
    · simp only [Act.put, List.setIfInBounds_toArray, List.set_cons_zero, List.set_cons_succ, i64_w, i32_w]
      rfl
    refine take_ (i := 2) (N := some 5) (v := ?_) (a' := ?_) #[false, true, true, false, true, false, false, false] rfl rfl (take_ofW HT_.out HW_.out (by kernel_rfl)) (fun _ _ _ h => h) (Or.inl ⟨by rfl, ?_⟩) hHeld ?_ ?_
    rotate_left
    · rintro w' ⟨s0, s1⟩
      go_simp
      with_reducible rfl
    rotate_left
    · simp only [Act.put, List.setIfInBounds_toArray, List.set_cons_zero, List.set_cons_succ, i64_w, i32_w]
      rfl
    refine take_ (i := 5) (N := some 8) (v := ?_) (a' := ?_) #[false, true, true, false, true, true, false, false] rfl rfl (take_ofW HT_.out HW_.out (by kernel_rfl)) (fun _ _ _ h => h) (Or.inl ⟨by rfl, ?_⟩) hHeld ?_ ?_
    rotate_left
    · rintro w' ⟨s0, s1⟩
      go_simp
      with_reducible rfl
    rotate_left
    · simp only [Act.put, List.setIfInBounds_toArray, List.set_cons_zero, List.set_cons_succ, i64_w, i32_w]
      rfl
    refine one_ (i := 0) (N := some 3) #[true, true, true, false, true, true, false, false] rfl rfl (one_of HT_.out (by kernel_rfl)) (by decide) (fun K hK => ?_)
    refine Kd.R_lit_step (Kd.int .u8) _ 5 ?hg (N := 3) ?hd (xs := ([] : List Int)) (inner := []) (ok := fun _ => True) (okp := fun _ => True) ?hr ?hp (fun _ hk => hk) trivial (Below.refl _ _) (Nat.le_refl _) (by simp) ?_; (case hd => rfl); (case hg => rfl); (case hr => first | (go_simp; done) | (go_simp; rfl)); (case hp => exact (Reps.none _ _))
    intro v23003 w6 ho7 hb hg_ hnew_
    clear hg_ hnew_
    (first | rw [← Ny23002.out] at ho7 | (simp only [Int.reduceToNat] at ho7; rw [← Ny23002.out] at ho7))
    have n0_ := Aside0.mk (Kd.R_lower ho7 (below_size (below_extB HB.out)))
    have n1_ := Aside0.mk (blk_below (blk_ext BK23001.out) hb)
    have n2_ := Aside0.mk (below_step (below_extB HB.out) hb)
    clear BK23001
    clear HB
    have HO23004 := n0_
    have BK23001 := n1_
    have HB := n2_
    clear n0_ n1_ n2_
    clear hb ho7
    refine hK.out _ _ ⟨(blk_cell BK23001.out 0).trans rfl, (blk_cell BK23001.out 1).trans rfl⟩ (fun hHeld => ?_)
    clear hK K
    refine norm_ (a' := ?_) ?_ ?_
    rotate_left
    · show Act.put _ (some 3) _ = _
      simp only [Act.put, List.setIfInBounds_toArray, List.set_cons_zero, List.set_cons_succ, i64_w, i32_w]
      rfl
    refine one_ (i := 3) (N := some 6) #[true, true, true, true, true, true, false, false] rfl rfl (one_of HT_.out (by kernel_rfl)) (by decide) (fun K hK => ?_)
    refine Kd.R_append_rows_step (Kd.int .u8) (w0 := w) w.heap.size (by rfl) (.tmp 3) (.tmp 5) 22 5 (.int .u8 0) 1 rfl Try.underlying22 info5 rfl (by decide) (by omega) v23003 y23002 l0_0 _ _ _ (fun _ => True) (fun _ => False) rfl rfl ?aO ?aR (fun _ _ h => h) (fun _ h => h.elim) ?aF ?aB ?aS ?aL ?_
    (case aR => repeat (first | exact (Kd.C_below HR0_0.out HB.out) | (with_reducible refine Kd.C_alloc ?_ _) | (with_reducible refine Kd.C_drewN ?_ _) | (with_reducible refine Kd.C_drew ?_)))
    (case aB => exact (below_extB HB.out))
    (case aF => exact (fun _ _ => trivial))
    (case aO => exact (Kd.R_ext HO23004.out))
    (case aS => exact (below_size (below_extB HB.out)))
    (case aL => have := LMc2.out; omega)
    intro v23006 w8 ho hb hg hat
    rw [← Ny23005.out] at ho
    have n0_ := Aside0.mk (blk_grown (g := gb23001) (o := .cells #[.slice A0_0 l0_0.length c0_0, .slice A0_1 l0_1.length c0_1] 24 (0, 0)) (blk_ext BK23001.out) hg (Kd.R_ne HO23004.out BK23001.out (by decide)))
    have n1_ := Aside0.mk (hb)
    have n2_ := Aside0.mk (ho)
    clear BK23001
    clear HB
    clear HO23004
    have BK23001 := n0_
    have HB := n1_
    have HO23007 := n2_
    clear n0_ n1_ n2_
    clear ho hb hg hat
    refine hK.out _ _ ⟨(blk_cell BK23001.out 0).trans rfl, (blk_cell BK23001.out 1).trans rfl⟩ (fun hHeld => ?_)
    clear hK K
    refine norm_ (a' := ?_) ?_ ?_
    rotate_left
    · show Act.put _ (some 6) _ = _
      simp only [Act.put, List.setIfInBounds_toArray, List.set_cons_zero, List.set_cons_succ, i64_w, i32_w]
      rfl
    refine one_ (i := 6) (N := some 9) #[true, true, true, true, true, true, true, false] rfl rfl (one_of HT_.out (by kernel_rfl)) (by decide) (fun K hK => ?_)
    refine Kd.R_append_rows_step (Kd.int .u8) (w0 := w) w.heap.size (by rfl) (.tmp 6) (.tmp 8) 22 5 (.int .u8 0) 1 rfl Try.underlying22 info5 rfl (by decide) (by omega) v23006 y23005 l0_1 _ _ _ (fun _ => True) (fun _ => False) rfl rfl ?aO ?aR (fun _ _ h => h) (fun _ h => h.elim) ?aF ?aB ?aS ?aL ?_
    (case aR => repeat (first | exact (Kd.C_below HR0_1.out HB.out) | (with_reducible refine Kd.C_alloc ?_ _) | (with_reducible refine Kd.C_drewN ?_ _) | (with_reducible refine Kd.C_drew ?_)))
    (case aB => exact (below_extB HB.out))
    (case aF => exact (fun _ _ => trivial))
    (case aO => exact (Kd.R_ext HO23007.out))
    (case aS => exact (below_size (below_extB HB.out)))
    (case aL => have := LMc3.out; omega)
    intro v23009 w9 ho hb hg hat
    rw [← Ny23008.out] at ho
    have n0_ := Aside0.mk (blk_grown (g := gb23001) (o := .cells #[.slice A0_0 l0_0.length c0_0, .slice A0_1 l0_1.length c0_1] 24 (0, 0)) (blk_ext BK23001.out) hg (Kd.R_ne HO23007.out BK23001.out (by decide)))
    have n1_ := Aside0.mk (hb)
    have n2_ := Aside0.mk (ho)
    clear BK23001
    clear HB
    clear HO23007
    have BK23001 := n0_
    have HB := n1_
    have HO23010 := n2_
    clear n0_ n1_ n2_
    clear ho hb hg hat
    refine hK.out _ _ ⟨(blk_cell BK23001.out 0).trans rfl, (blk_cell BK23001.out 1).trans rfl⟩ (fun hHeld => ?_)
    clear hK K
    refine norm_ (a' := ?_) ?_ ?_
    rotate_left
    · show Act.put _ (some 9) _ = _
      simp only [Act.put, List.setIfInBounds_toArray, List.set_cons_zero, List.set_cons_succ, i64_w, i32_w]
      rfl
    refine pure_ (i := 7) (N := some 2) (v := ?_) (a' := ?_) #[true, true, true, true, true, true, true, true] rfl rfl (any_of HT_.out (by kernel_rfl)) (fun _ _ _ h => h) (Or.inl ⟨by rfl, ?_⟩) ?_ ?_
    rotate_left
    · intro w'
      go_simp
      with_reducible rfl
    rotate_left
    · simp only [Act.put, List.setIfInBounds_toArray, List.set_cons_zero, List.set_cons_succ, i64_w, i32_w]
      rfl
    refine done_ (done_of HT_.out (by kernel_rfl)) ?_
    try go_wp2
    go_ret
    exact ⟨_, by first | rfl | (simp [errW_none, errW_some] <;> rfl) | (simp [*, errW_none, errW_some] <;> rfl), Kd.R_ext HO23010.out, below_extB HB.out⟩
  · rw [if_neg c2] at H
    exact absurd H (by simp)

end Go.Proofs.Ytfljnggpnndmkaa.Z
