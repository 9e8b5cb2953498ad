/- Written by a program of this session: each Go function as a plain Lean function, and that the machine's call does what it says. Conditions: none but those each theorem states. -/
import Derived.Test.YtfljnggpnndmkaaZ0
import Derived.Test.YtfljnggpnndmkaaZslicesCloneintint
namespace Go.Proofs.Ytfljnggpnndmkaa.Z
open Go.RowKit Go.Proofs.YtfljnggpnndmkaaW.PrintWords Go.Proofs.YtfljnggpnndmkaaW.PrintLast Go.Proofs.YtfljnggpnndmkaaW.PrintMore
attribute [local go_sem] max2_int min2_int max_two min_two max_three min_three max_four min_four   -- for this text's walks alone
set_option linter.unusedVariables false
set_option linter.unusedSimpArgs false

/-! ### channel_copied: function 70 -/
def channel_copied.f (a0_0 : Int) (l0_1 : List Int) (l0_2 : List Int) : Option (Int × List Int × List Int) := (slices_Clone_int_int.f l0_1).bind fun t70003 => ((slices_Clone_int_int.f l0_2).bind fun t70006 => (some (a0_0, t70003, t70006)))
def channel_copied.T1 : Bool × List (List Nat × List Nat) := (true, [([], []), ([0], [0]), ([1], [1]), ([], []), ([3], [3]), ([4, 2], [4]), ([0, 1, 2, 3, 4], []), ([6, 2, 5, 0, 1, 2, 3, 4], [2, 6]), ([0, 1, 2, 3, 4, 5, 6, 7], []), ([8, 5, 7, 0, 1, 2, 3, 4, 5, 6, 7], [5, 8])])
def channel_copied.B1 : List Nat := [0, 1, 3, 0, 8, 31, 31, 127, 255, 511]
theorem channel_copied.tab1 : rtab .any (opsOf Try.f70 1) = channel_copied.T1 := by kernel_rfl
theorem channel_copied.bits1 : waitsOk channel_copied.T1.2 channel_copied.B1 = true := by kernel_rfl
set_option maxHeartbeats 8000000 in
set_option maxRecDepth 100000 in
theorem channel_copied.calls (a0_0 : Int) (A0_1 : Option Addr) (c0_1 : Nat) (l0_1 : List Int) (A0_2 : Option Addr) (c0_2 : Nat) (l0_2 : List Int) (r1 : Int) (r2 : List Int) (r3 : List Int) (w : World) (hr0_1 : Kd.C (Kd.int .i64) w A0_1 l0_1.length l0_1) (hc0_1 : l0_1.length ≤ c0_1) (hr0_2 : Kd.C (Kd.int .i64) w A0_2 l0_2.length l0_2) (hc0_2 : l0_2.length ≤ c0_2) (h : channel_copied.f a0_0 l0_1 l0_2 = some (r1, r2, r3)) :
    Calls Try.prog 70 #[.agg #[.int .i64 a0_0, .slice A0_1 l0_1.length c0_1, .slice A0_2 l0_2.length c0_2]] w fun e w' => ∃ v1_ v2_ : Value, e = .returned (.agg #[.int .i64 r1, v1_, v2_]) ∧ Kd.R (Kd.int .i64) 3 w' w.heap.size (fun k_ => some k_ ≠ (v2_ : Value).ownBlock) v1_ r2 ∧ Kd.R (Kd.int .i64) 3 w' w.heap.size (fun k_ => some k_ ≠ (v1_ : Value).ownBlock) v2_ r3 ∧ Below w.heap.size w w' := by
  have hu44 := Try.underlying44
  have HR0_1 := Aside0.mk hr0_1
  have HC0_1 := Aside0.mk hc0_1
  clear hr0_1 hc0_1
  have HR0_2 := Aside0.mk hr0_2
  have HC0_2 := Aside0.mk hc0_2
  clear hr0_2 hc0_2
  have HB := Aside0.mk (Below.refl w.heap.size w)
  have H : ((slices_Clone_int_int.f l0_1).bind fun t70003 => ((slices_Clone_int_int.f l0_2).bind fun t70006 => (some (a0_0, t70003, t70006)))) = some (r1, r2, r3) := h
  clear h
  replace H := Option.bind_eq_some_iff.mp H
  obtain ⟨t70003, A20, H⟩ := H
  replace H : ((slices_Clone_int_int.f l0_2).bind fun t70006 => (some (a0_0, t70003, t70006))) = some (r1, r2, r3) := H
  have A2 := Aside0.mk A20
  clear A20
  replace H := Option.bind_eq_some_iff.mp H
  obtain ⟨t70006, A30, H⟩ := H
  replace H : (some (a0_0, t70003, t70006)) = some (r1, r2, r3) := H
  have A3 := Aside0.mk A30
  clear A30
  simp only [Option.some.injEq, Prod.mk.injEq] at H
  obtain ⟨rfl, rfl, rfl⟩ := H
  go_enter Try.func70, Try.ntmps70
  try go_wp2_with (first | ((with_reducible refine gate_dst (N := 1) rfl ?_); refine box_event ?hg (N := 1) ?hd (cs := #[.int .i64 a0_0, .slice A0_1 l0_1.length c0_1, .slice A0_2 l0_2.length c0_2]) (t := 44) ?hr ?_; (case hd => rfl); (case hg => rfl); (case hr => first | (go_simp; done) | (go_simp; rfl)); intro gb70001 hg w4 hbox hb; have n1_ := Aside0.mk (hbox); have n2_ := Aside0.mk ((by rw [hg]; exact (below_size (below_ext HB.out)) : w.heap.size ≤ gb70001)); have n3_ := Aside0.mk ((by rw [hg]; exact (below_size (below_ext HB.out)) : w.heap.size ≤ gb70001)); have BK70001 := n1_; have GW70001 := n2_; have GE70001 := n3_; have GI70001 := GE_.mk GE70001.out; replace HB := mvH HB hb; clear n1_ n2_ n3_; clear hb hbox hg) | ((with_reducible refine gate_dst (N := 2) rfl ?_); refine box_event ?hg (N := 2) ?hd (cs := #[.int .i64 0, .slice none 0 0, .slice none 0 0]) (t := 44) ?hr ?_; (case hd => rfl); (case hg => rfl); (case hr => first | (go_simp; done) | (go_simp; rfl)); intro gb70002 hg w5 hbox hb; have n2_ := Aside0.mk (hbox); have n3_ := Aside0.mk ((by rw [hg]; exact (below_size (below_extB HB.out)) : w.heap.size ≤ gb70002)); have n4_ := Aside0.mk ((by rw [hg]; exact (below_size (below_extB HB.out)) : w.heap.size ≤ gb70002)); have n5_ := Aside0.mk ((by rw [hg]; exact Nat.ne_of_lt (blk_lt (blk_ext BK70001.out)) : gb70001 ≠ gb70002)); have n6_ := Aside0.mk ((by rw [hg]; exact Nat.ne_of_gt (blk_lt (blk_ext BK70001.out)) : gb70002 ≠ gb70001)); have BK70002 := n2_; have GW70002 := n3_; have GE70002 := n4_; have GI70002 := GE_.mk GE70002.out; have NB70001_70002 := n5_; have NB70002_70001 := n6_; replace BK70001 := mvB BK70001 hb; replace HB := mvH HB hb; clear n2_ n3_ n4_ n5_ n6_; clear hb hbox hg))
  have n0_ := Aside0.mk (blk_drew BK70001.out)
  have n1_ := Aside0.mk (blk_drew BK70002.out)
  have n2_ := Aside0.mk (below_drew1 HB.out)
  clear BK70001
  clear BK70002
  clear HB
  have BK70001 := n0_
  have BK70002 := n1_
  have HB := n2_
  clear n0_ n1_ n2_
  refine start_ (n := 10) (S := fun w' => w'.cell? ⟨gb70001, 0, none⟩ = some (.int .i64 a0_0) ∧ w'.cell? ⟨gb70001, 1, none⟩ = some (.slice A0_1 l0_1.length c0_1) ∧ w'.cell? ⟨gb70001, 2, none⟩ = some (.slice A0_2 l0_2.length c0_2)) (ds := [7, 9]) #[false, false, false, false, false, false, false, false, false, false] (by kernel_rfl) rfl rfl ⟨(blk_cell BK70001.out 0).trans rfl, (blk_cell BK70001.out 1).trans rfl, (blk_cell BK70001.out 2).trans rfl⟩ (fun hHeld => ?_); refine with_tabW channel_copied.tab1 channel_copied.bits1 (fun HT_ HW_ => ?_)
  generalize w5.drew = w6 at BK70001 BK70002 HB hHeld ⊢
  refine pure_ (i := 0) (N := some 3) (v := ?_) (a' := ?_) #[true, false, false, false, false, false, false, false, false, false] rfl rfl (any_of HT_.out (by kernel_rfl)) (fun _ _ _ h => h) (Or.inl ⟨by rfl, ?_⟩) ?_ ?_
  rotate_left
  · intro w'
    go_simp
    with_reducible rfl
  rotate_left
  · simp only [Act.put, List.setIfInBounds_toArray, List.set_cons_zero, List.set_cons_succ, i64_w, i32_w]
    rfl
  refine pure_ (i := 3) (N := some 6) (v := ?_) (a' := ?_) #[true, false, false, true, false, false, false, false, false, false] rfl rfl (any_of HT_.out (by kernel_rfl)) (fun _ _ _ h => h) (Or.inl ⟨by rfl, ?_⟩) ?_ ?_
  rotate_left
  · intro w'
    go_simp
    with_reducible rfl
  rotate_left
  · simp only [Act.put, List.setIfInBounds_toArray, List.set_cons_zero, List.set_cons_succ, i64_w, i32_w]
    rfl
  refine take_ (i := 1) (N := some 4) (v := ?_) (a' := ?_) #[true, true, false, true, false, false, false, false, false, false] rfl rfl (take_ofW HT_.out HW_.out (by kernel_rfl)) (fun _ _ _ h => h) (Or.inl ⟨by rfl, ?_⟩) hHeld ?_ ?_
  rotate_left
  · rintro w' ⟨s0, s1, s2⟩
    go_simp
    with_reducible rfl
  rotate_left
  · simp only [Act.put, List.setIfInBounds_toArray, List.set_cons_zero, List.set_cons_succ, i64_w, i32_w]
    rfl
  refine take_ (i := 4) (N := some 7) (v := ?_) (a' := ?_) #[true, true, false, true, true, false, false, false, false, false] rfl rfl (take_ofW HT_.out HW_.out (by kernel_rfl)) (fun _ _ _ h => h) (Or.inl ⟨by rfl, ?_⟩) hHeld ?_ ?_
  rotate_left
  · rintro w' ⟨s0, s1, s2⟩
    go_simp
    with_reducible rfl
  rotate_left
  · simp only [Act.put, List.setIfInBounds_toArray, List.set_cons_zero, List.set_cons_succ, i64_w, i32_w]
    rfl
  refine one_ (i := 2) (N := some 5) #[true, true, true, true, true, false, false, false, false, false] rfl rfl (one_of HT_.out (by kernel_rfl)) (by decide) (fun K hK => ?_)
  refine goes_ Try.func79 (by kernel_rfl) rfl #[.slice A0_1 l0_1.length c0_1] (by rfl) rfl rfl (by (try simp only [List.map_toArray, List.map_cons, List.map_nil]); first | done | rfl | (simp only [List.length_drop, List.length_take]; rfl)) ?_
  with_reducible refine (slices_Clone_int_int.calls _ _ l0_1 t70003 _ ?side1 ?side2 A2.out).mono ?_
  (case side1 => repeat (first | exact (Kd.C_below HR0_1.out HB.out) | (with_reducible refine Kd.C_alloc ?_ _) | (with_reducible refine Kd.C_drewN ?_ _) | (with_reducible refine Kd.C_drew ?_)))
  (case side2 => exact HC0_1.out)
  rintro e w7 ⟨v70004, rfl, ho0, hb⟩
  refine ⟨_, rfl, ?_⟩
  have n0_ := Aside0.mk (Kd.R_lower ho0 (below_size (below_extB HB.out)))
  have HO70005 := n0_
  replace BK70001 := mvB BK70001 hb
  replace BK70002 := mvB BK70002 hb
  replace HB := mvH HB hb
  clear n0_
  (try clear hb)
  (try clear hb2)
  (try clear hk)
  (try clear hi)
  (try clear ho0)
  refine hK.out _ _ ⟨(blk_cell BK70001.out 0).trans rfl, (blk_cell BK70001.out 1).trans rfl, (blk_cell BK70001.out 2).trans rfl⟩ (fun hHeld => ?_)
  clear hK K
  refine norm_ (a' := ?_) ?_ ?_
  rotate_left
  · show Act.put _ (some 5) _ = _
    simp only [Act.put, List.setIfInBounds_toArray, List.set_cons_zero, List.set_cons_succ, i64_w, i32_w]
    rfl
  refine pure_ (i := 6) (N := some 9) (v := ?_) (a' := ?_) #[true, true, true, true, true, false, true, false, false, false] rfl rfl (any_of HT_.out (by kernel_rfl)) (fun _ _ _ h => h) (Or.inl ⟨by rfl, ?_⟩) ?_ ?_
  rotate_left
  · intro w'
    go_simp
    with_reducible rfl
  rotate_left
  · simp only [Act.put, List.setIfInBounds_toArray, List.set_cons_zero, List.set_cons_succ, i64_w, i32_w]
    rfl
  refine one_ (i := 5) (N := some 8) #[true, true, true, true, true, true, true, false, false, false] rfl rfl (one_of HT_.out (by kernel_rfl)) (by decide) (fun K hK => ?_)
  refine goes_ Try.func79 (by kernel_rfl) rfl #[.slice A0_2 l0_2.length c0_2] (by rfl) rfl rfl (by (try simp only [List.map_toArray, List.map_cons, List.map_nil]); first | done | rfl | (simp only [List.length_drop, List.length_take]; rfl)) ?_
  with_reducible refine (slices_Clone_int_int.calls _ _ l0_2 t70006 _ ?side1 ?side2 A3.out).mono ?_
  (case side1 => repeat (first | exact (Kd.C_below HR0_2.out HB.out) | (with_reducible refine Kd.C_alloc ?_ _) | (with_reducible refine Kd.C_drewN ?_ _) | (with_reducible refine Kd.C_drew ?_)))
  (case side2 => exact HC0_2.out)
  rintro e w8 ⟨v70007, rfl, ho0, hb⟩
  refine ⟨_, rfl, ?_⟩
  have n1_ := Aside0.mk (Kd.R_lower (Kd.R_new' ho0 (Kd.R_lt (Kd.R_ext HO70005.out))) (below_size (below_extB HB.out)))
  have HO70008 := n1_
  replace HO70005 := apR HO70005 hb (Kd.R_base ho0)
  replace BK70001 := mvB BK70001 hb
  replace BK70002 := mvB BK70002 hb
  replace HB := mvH HB hb
  clear n1_
  (try clear hb)
  (try clear hb2)
  (try clear hk)
  (try clear hi)
  (try clear ho0)
  obtain ⟨Ao9, co9, eo9⟩ := Kd.R_slice HO70005.out
  (first | subst eo9 | (injection eo9 with f1_ f2_ f3_; have f4_ := f1_.symm; have f5_ := f3_.symm; clear f1_ f2_ f3_; subst f4_; subst f5_))
  obtain ⟨Ao11, co11, eo11⟩ := Kd.R_slice HO70008.out
  (first | subst eo11 | (injection eo11 with f1_ f2_ f3_; have f4_ := f1_.symm; have f5_ := f3_.symm; clear f1_ f2_ f3_; subst f4_; subst f5_))
  refine hK.out _ _ ⟨(blk_cell BK70001.out 0).trans rfl, (blk_cell BK70001.out 1).trans rfl, (blk_cell BK70001.out 2).trans rfl⟩ (fun hHeld => ?_)
  clear hK K
  refine norm_ (a' := ?_) ?_ ?_
  rotate_left
  · show Act.put _ (some 8) _ = _
    simp only [Act.put, List.setIfInBounds_toArray, List.set_cons_zero, List.set_cons_succ, i64_w, i32_w]
    rfl
  refine last_ (i := 7) (N := none) #[true, true, true, true, true, true, true, true, false, false] rfl rfl (one_of HT_.out (by kernel_rfl)) (by decide) (fun K hK => ?_)
  have hs10 : w8.cell? ⟨gb70001, 1, none⟩ = some (.slice A0_1 l0_1.length c0_1) := (blk_cell BK70001.out 1).trans rfl
  have hfs10 := blk_frozen BK70001.out 1
  have hns10_1 := NB70002_70001.out
  have hms10_1 := NB70001_70002.out
  refine skip_ (w1 := ?_) (by rfl) rfl ?_ ?_
  rotate_left
  · go_simp
    rfl
  refine hK.out _ _ ?_
  clear hK K
  refine pure_ (i := 8) (N := some 10) (v := ?_) (a' := ?_) #[true, true, true, true, true, true, true, true, true, false] rfl rfl (any_of HT_.out (by kernel_rfl)) (fun _ _ _ h => h) (Or.inl ⟨by rfl, ?_⟩) ?_ ?_
  rotate_left
  · intro w'
    go_simp
    with_reducible rfl
  rotate_left
  · simp only [Act.put, List.setIfInBounds_toArray, List.set_cons_zero, List.set_cons_succ, i64_w, i32_w]
    rfl
  refine last_ (i := 9) (N := none) #[true, true, true, true, true, true, true, true, true, true] rfl rfl (one_of HT_.out (by kernel_rfl)) (by decide) (fun K hK => ?_)
  have hs12 : w8.cell? ⟨gb70001, 2, none⟩ = some (.slice A0_2 l0_2.length c0_2) := (blk_cell BK70001.out 2).trans rfl
  have hfs12 := blk_frozen BK70001.out 2
  have hns12_1 := NB70002_70001.out
  have hms12_1 := NB70001_70002.out
  refine skip_ (w1 := ?_) (by rfl) rfl ?_ ?_
  rotate_left
  · go_simp
    rfl
  refine hK.out _ _ ?_
  clear hK K
  refine done_ (done_of HT_.out (by kernel_rfl)) ?_
  have hnb13 := NB70001_70002.out
  have hnc13 := NB70002_70001.out
  have hcz14_0 : w8.cell? ⟨gb70001, 0, none⟩ = some (.int .i64 a0_0) := (blk_cell BK70001.out 0).trans rfl
  have hcz14_1 : w8.cell? ⟨gb70001, 1, none⟩ = some (.slice A0_1 l0_1.length c0_1) := (blk_cell BK70001.out 1).trans rfl
  have hcz14_2 : w8.cell? ⟨gb70001, 2, none⟩ = some (.slice A0_2 l0_2.length c0_2) := (blk_cell BK70001.out 2).trans rfl
  have hfz14_0 := blk_frozen BK70001.out 0
  have hfz14_1 := blk_frozen BK70001.out 1
  have hfz14_2 := blk_frozen BK70001.out 2
  have hcz15_0 : w8.cell? ⟨gb70002, 0, none⟩ = some (.int .i64 0) := (blk_cell BK70002.out 0).trans rfl
  have hcz15_1 : w8.cell? ⟨gb70002, 1, none⟩ = some (.slice none 0 0) := (blk_cell BK70002.out 1).trans rfl
  have hcz15_2 : w8.cell? ⟨gb70002, 2, none⟩ = some (.slice none 0 0) := (blk_cell BK70002.out 2).trans rfl
  have hfz15_0 := blk_frozen BK70002.out 0
  have hfz15_1 := blk_frozen BK70002.out 1
  have hfz15_2 := blk_frozen BK70002.out 2
  try go_wp2
  refine bodyPost_ret (results_cell_row rfl _ _ gb70002 44 #[.int .i64 a0_0, .slice Ao9 t70003.length co9, .slice Ao11 t70006.length co11] (0, 0) _ rfl (by (with_reducible repeat (first | refine blk_drewN ?_ _ | refine blk_drew ?_ | refine blk_alloc ?_ _)); refine blk_put (cs := #[.int .i64 a0_0, .slice Ao9 t70003.length co9, .slice none 0 0]) ?_ 2 _ rfl; (with_reducible repeat (first | refine blk_drewN ?_ _ | refine blk_drew ?_ | refine blk_alloc ?_ _)); refine blk_put (cs := #[.int .i64 a0_0, .slice none 0 0, .slice none 0 0]) ?_ 1 _ rfl; (with_reducible repeat (first | refine blk_drewN ?_ _ | refine blk_drew ?_ | refine blk_alloc ?_ _)); refine blk_put (cs := #[.int .i64 0, .slice none 0 0, .slice none 0 0]) ?_ 0 _ rfl; (with_reducible repeat (first | refine blk_drewN ?_ _ | refine blk_drew ?_ | refine blk_alloc ?_ _)); refine blk_far ?_ NB70002_70001.out _; (with_reducible repeat (first | refine blk_drewN ?_ _ | refine blk_drew ?_ | refine blk_alloc ?_ _)); refine blk_far ?_ NB70002_70001.out _; exact blk_ext BK70002.out) Try.underlying44 rfl (by kernel_rfl)) rfl ?_
  exact ⟨_, _, by first | rfl | (simp [errW_none, errW_some] <;> rfl) | (simp [*, errW_none, errW_some] <;> rfl), Kd.R_ext (Kd.R_mono (Kd.R_far (p := ⟨gb70002, 2, none⟩) (Kd.R_far (p := ⟨gb70002, 1, none⟩) (Kd.R_far (p := ⟨gb70002, 0, none⟩) (Kd.R_far (p := ⟨gb70001, 2, none⟩) (Kd.R_far (p := ⟨gb70001, 1, none⟩) (Kd.R_types (Kd.R_types HO70005.out BK70001.out (by decide)) BK70002.out (by decide)) (fun _ hk => hk.1.2) (.slice Ao9 t70003.length co9)) (fun _ hk => hk.1.2) (.slice Ao11 t70006.length co11)) (fun _ hk => hk.2) (.int .i64 a0_0)) (fun _ hk => hk.2) (.slice Ao9 t70003.length co9)) (fun _ hk => hk.2) (.slice Ao11 t70006.length co11)) (fun _ hk => hk.1.1.2)), Kd.R_ext (Kd.R_mono (Kd.R_far (p := ⟨gb70002, 2, none⟩) (Kd.R_far (p := ⟨gb70002, 1, none⟩) (Kd.R_far (p := ⟨gb70002, 0, none⟩) (Kd.R_far (p := ⟨gb70001, 2, none⟩) (Kd.R_far (p := ⟨gb70001, 1, none⟩) (Kd.R_types (Kd.R_types HO70008.out BK70001.out (by decide)) BK70002.out (by decide)) (fun _ hk => hk.1.2) (.slice Ao9 t70003.length co9)) (fun _ hk => hk.1.2) (.slice Ao11 t70006.length co11)) (fun _ hk => hk.2) (.int .i64 a0_0)) (fun _ hk => hk.2) (.slice Ao9 t70003.length co9)) (fun _ hk => hk.2) (.slice Ao11 t70006.length co11)) (fun _ hk => hk.1.1.2)), below_extB HB.out⟩

end Go.Proofs.Ytfljnggpnndmkaa.Z
