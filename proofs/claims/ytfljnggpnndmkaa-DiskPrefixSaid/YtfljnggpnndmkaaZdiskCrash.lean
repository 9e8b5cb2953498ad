/- Written by a program of this session: each Go function as a plain Lean function, and that the machine's call does what it says. Conditions: none but those each theorem states. -/
import Derived.Test.YtfljnggpnndmkaaZ0
import Derived.Test.YtfljnggpnndmkaaZslicesConcatbytebyte
namespace Go.Proofs.Ytfljnggpnndmkaa.Z
open Go.RowKit Go.Proofs.YtfljnggpnndmkaaW.PrintWords Go.Proofs.YtfljnggpnndmkaaW.PrintLast Go.Proofs.YtfljnggpnndmkaaW.PrintMore
attribute [local go_sem] max2_int min2_int max_two min_two max_three min_three max_four min_four   -- for this text's walks alone
set_option linter.unusedVariables false
set_option linter.unusedSimpArgs false

/-! ### disk_Crash: function 25 -/
def disk_Crash.f (l0_0 : List Int) (l0_1 : List Int) (a1 : Int) : Option (List Int × List Int) := if 0 ≤ (mn (mx a1 0) (l0_1.length : Int)) then (if (mn (mx a1 0) (l0_1.length : Int)) ≤ (l0_1.length : Int) then ((slices_Concat_byte_byte.f l0_0 (l0_1.take ((mn (mx a1 0) (l0_1.length : Int)) : Int).toNat)).bind fun t25005 => (some (t25005, ([] : List Int)))) else (none)) else (none)
def disk_Crash.T2 : Bool × List (List Nat × List Nat) := (true, [([], []), ([0], [0]), ([], []), ([2], [2]), ([], []), ([3, 4], [3, 4]), ([1, 5], [1, 5]), ([6], [6]), ([7], [7]), ([8, 7, 0, 1, 2, 3, 4, 5, 6, 7, 8], [8])])
def disk_Crash.B2 : List Nat := [0, 1, 0, 4, 0, 28, 63, 127, 255, 511]
theorem disk_Crash.tab2 : rtab .any (opsOf Try.f25 2) = disk_Crash.T2 := by kernel_rfl
theorem disk_Crash.bits2 : waitsOk disk_Crash.T2.2 disk_Crash.B2 = true := by kernel_rfl
set_option maxHeartbeats 8000000 in
set_option maxRecDepth 100000 in
theorem disk_Crash.calls (A0_0 : Option Addr) (c0_0 : Nat) (l0_0 : List Int) (A0_1 : Option Addr) (c0_1 : Nat) (l0_1 : List Int) (a1 : Int) (r1 : List Int) (r2 : List Int) (w : World) (hr0_0 : Kd.C (Kd.int .u8) w A0_0 l0_0.length l0_0) (hc0_0 : l0_0.length ≤ c0_0) (hr0_1 : Kd.C (Kd.int .u8) w A0_1 l0_1.length l0_1) (hc0_1 : l0_1.length ≤ c0_1) (h : disk_Crash.f l0_0 l0_1 a1 = some (r1, r2)) :
    Calls Try.prog 25 #[.agg #[.slice A0_0 l0_0.length c0_0, .slice A0_1 l0_1.length c0_1], .int .i64 a1] w fun e w' => ∃ v0_ v1_ : Value, e = .returned (.agg #[v0_, v1_]) ∧ Kd.R (Kd.int .u8) 5 w' w.heap.size (fun k_ => some k_ ≠ (v1_ : Value).ownBlock) v0_ r1 ∧ Kd.R (Kd.int .u8) 5 w' w.heap.size (fun k_ => some k_ ≠ (v0_ : Value).ownBlock) v1_ r2 ∧ Below w.heap.size w w' := by
  have hu24 := Try.underlying24
  have HR0_0 := Aside0.mk hr0_0
  have HC0_0 := Aside0.mk hc0_0
  clear hr0_0 hc0_0
  have HR0_1 := Aside0.mk hr0_1
  have HC0_1 := Aside0.mk hc0_1
  clear hr0_1 hc0_1
  have HB := Aside0.mk (Below.refl w.heap.size w)
  have H : (if 0 ≤ (mn (mx a1 0) (l0_1.length : Int)) then (if (mn (mx a1 0) (l0_1.length : Int)) ≤ (l0_1.length : Int) then ((slices_Concat_byte_byte.f l0_0 (l0_1.take ((mn (mx a1 0) (l0_1.length : Int)) : Int).toNat)).bind fun t25005 => (some (t25005, ([] : List Int)))) else (none)) else (none)) = some (r1, r2) := h
  clear h
  obtain ⟨ji3, hji3⟩ : ∃ j_ : Int, (mx a1 0) = j_ := ⟨_, rfl⟩
  replace H : (if 0 ≤ (mn (ji3) (l0_1.length : Int)) then (if (mn (ji3) (l0_1.length : Int)) ≤ (l0_1.length : Int) then ((slices_Concat_byte_byte.f l0_0 (l0_1.take ((mn (ji3) (l0_1.length : Int)) : Int).toNat)).bind fun t25005 => (some (t25005, ([] : List Int)))) else (none)) else (none)) = some (r1, r2) := by first | (rw [hji3] at H; exact H) | (simp only [hji3] at H ⊢; exact H)
  (try (have hji3l : 0 ≤ ji3 := by (rw [← hji3]; unfold mx; (repeat' split) <;> omega)))
  (try (have hji3m : 0 ≤ ji3 := by omega))
  have hji3_ : (if a1 < 0 then 0 else a1) = ji3 := hji3
  obtain ⟨ji4, hji4⟩ : ∃ j_ : Int, (mn (ji3) (l0_1.length : Int)) = j_ := ⟨_, rfl⟩
  replace H : (if 0 ≤ (ji4) then (if (ji4) ≤ (l0_1.length : Int) then ((slices_Concat_byte_byte.f l0_0 (l0_1.take ((ji4) : Int).toNat)).bind fun t25005 => (some (t25005, ([] : List Int)))) else (none)) else (none)) = some (r1, r2) := by first | (rw [hji4] at H; exact H) | (simp only [hji4] at H ⊢; exact H)
  have hji4_ : (if (l0_1.length : Int) < (ji3) then (l0_1.length : Int) else (ji3)) = ji4 := hji4
  by_cases c5 : 0 ≤ (ji4)
  · rw [if_pos c5] at H
    have c5b0 := eq_true c5
    have c5b1 : decide (0 ≤ (ji4)) = true := decide_eq_true c5
    clear c5
    replace H := if_some H; obtain ⟨c6, H⟩ := H
    have c6b0 := eq_true c6
    have c6b1 : decide ((ji4) ≤ (l0_1.length : Int)) = true := decide_eq_true c6
    clear c6
    replace H := Option.bind_eq_some_iff.mp H
    obtain ⟨t25005, A70, H⟩ := H
    replace H : (some (t25005, ([] : List Int))) = some (r1, r2) := H
    have A7 := Aside0.mk A70
    clear A70
    simp only [Option.some.injEq, Prod.mk.injEq] at H
    obtain ⟨rfl, rfl⟩ := H
    go_enter Try.func25, Try.ntmps25
    try go_wp2_with (first | ((with_reducible refine gate_dst (N := 2) rfl ?_); refine box_event ?hg (N := 2) ?hd (cs := #[.slice A0_0 l0_0.length c0_0, .slice A0_1 l0_1.length c0_1]) (t := 24) ?hr ?_; (case hd => rfl); (case hg => rfl); (case hr => first | (go_simp; done) | (go_simp; rfl)); intro gb25001 hg w8 hbox hb; have n1_ := Aside0.mk (hbox); have n2_ := Aside0.mk ((by rw [hg]; exact (below_size (below_ext HB.out)) : w.heap.size ≤ gb25001)); have n3_ := Aside0.mk ((by rw [hg]; exact (below_size (below_ext HB.out)) : w.heap.size ≤ gb25001)); have BK25001 := n1_; have GW25001 := n2_; have GE25001 := n3_; have GI25001 := GE_.mk GE25001.out; replace HB := mvH HB hb; clear n1_ n2_ n3_; clear hb hbox hg) | ((with_reducible refine gate_dst (N := 4) rfl ?_); refine box_event ?hg (N := 4) ?hd (cs := #[.slice none 0 0, .slice none 0 0]) (t := 24) ?hr ?_; (case hd => rfl); (case hg => rfl); (case hr => first | (go_simp; done) | (go_simp; rfl)); intro gb25002 hg w9 hbox hb; have n2_ := Aside0.mk (hbox); have n3_ := Aside0.mk ((by rw [hg]; exact (below_size (below_extB HB.out)) : w.heap.size ≤ gb25002)); have n4_ := Aside0.mk ((by rw [hg]; exact (below_size (below_extB HB.out)) : w.heap.size ≤ gb25002)); have n5_ := Aside0.mk ((by rw [hg]; exact Nat.ne_of_lt (blk_lt (blk_ext BK25001.out)) : gb25001 ≠ gb25002)); have n6_ := Aside0.mk ((by rw [hg]; exact Nat.ne_of_gt (blk_lt (blk_ext BK25001.out)) : gb25002 ≠ gb25001)); have BK25002 := n2_; have GW25002 := n3_; have GE25002 := n4_; have GI25002 := GE_.mk GE25002.out; have NB25001_25002 := n5_; have NB25002_25001 := n6_; replace BK25001 := mvB BK25001 hb; replace HB := mvH HB hb; clear n2_ n3_ n4_ n5_ n6_; clear hb hbox hg; have hnb10 := NB25001_25002.out; have hnc10 := NB25002_25001.out; have hcz11_0 : w9.cell? ⟨gb25001, 0, none⟩ = some (.slice A0_0 l0_0.length c0_0) := (blk_cell BK25001.out 0).trans rfl; have hcz11_1 : w9.cell? ⟨gb25001, 1, none⟩ = some (.slice A0_1 l0_1.length c0_1) := (blk_cell BK25001.out 1).trans rfl; have hfz11_0 := blk_frozen BK25001.out 0; have hfz11_1 := blk_frozen BK25001.out 1))
    have n0_ := Aside0.mk (blk_drew BK25001.out)
    have n1_ := Aside0.mk (blk_drew BK25002.out)
    have n2_ := Aside0.mk (below_drew1 HB.out)
    clear BK25001
    clear BK25002
    clear HB
    have BK25001 := n0_
    have BK25002 := n1_
    have HB := n2_
    clear n0_ n1_ n2_
    obtain ⟨i013, hi013, _, hsz13, _⟩ := info_parts info5
    obtain ⟨hcut13, hA13, hC13⟩ := print_take_of (P := Try.prog) (Value.int .u8) 0 22 5 .i64 Try.underlying22 hi013 hsz13 A0_1 c0_1 l0_1 (ji4) (of_decide_eq_true (by first | (with_reducible assumption) | assumption)) (of_decide_eq_true (by first | (with_reducible assumption) | assumption)) HC0_1.out
    have HR25003 := Aside0.mk (Kd.C_of_reads (h1 := fun _ => rfl) (hA13 _ (Kd.reads_of_C HR0_1.out)))
    have HC25003 := Aside0.mk hC13
    clear hA13 hC13 hi013 hsz13
    refine start_ (n := 10) (S := fun w' => w'.cell? ⟨gb25001, 0, none⟩ = some (.slice A0_0 l0_0.length c0_0) ∧ w'.cell? ⟨gb25001, 1, none⟩ = some (.slice A0_1 l0_1.length c0_1)) (ds := []) #[false, false, false, false, false, false, false, false, false, false] (by kernel_rfl) rfl rfl ⟨(blk_cell BK25001.out 0).trans rfl, (blk_cell BK25001.out 1).trans rfl⟩ (fun hHeld => ?_); refine with_tabW disk_Crash.tab2 disk_Crash.bits2 (fun HT_ HW_ => ?_)
    generalize w9.drew = w12 at BK25001 BK25002 HB HR25003 hHeld ⊢
    refine pure_ (i := 0) (N := some 11) (v := ?_) (a' := ?_) #[true, false, false, false, false, false, false, false, false, false] rfl rfl (any_of HT_.out (by kernel_rfl)) (fun _ _ _ h => h) (Or.inl ⟨by rfl, ?_⟩) ?_ ?_
    rotate_left
    · intro w'
      go_simp
      with_reducible rfl
    rotate_left
    · simp only [Act.put, List.setIfInBounds_toArray, List.set_cons_zero, List.set_cons_succ, i64_w, i32_w]
      rfl
    refine pure_ (i := 2) (N := some 13) (v := ?_) (a' := ?_) #[true, false, true, false, false, false, false, false, false, false] rfl rfl (any_of HT_.out (by kernel_rfl)) (fun _ _ _ h => h) (Or.inl ⟨by rfl, ?_⟩) ?_ ?_
    rotate_left
    · intro w'
      go_simp
      with_reducible rfl
    rotate_left
    · simp only [Act.put, List.setIfInBounds_toArray, List.set_cons_zero, List.set_cons_succ, i64_w, i32_w]
      rfl
    refine pure_ (i := 4) (N := some 15) (v := ?_) (a' := ?_) #[true, false, true, false, true, false, false, false, false, false] rfl rfl (any_of HT_.out (by kernel_rfl)) (fun _ _ _ h => h) (Or.inl ⟨by rfl, ?_⟩) ?_ ?_
    rotate_left
    · intro w'
      go_simp
      with_reducible rfl
    rotate_left
    · simp only [Act.put, List.setIfInBounds_toArray, List.set_cons_zero, List.set_cons_succ, i64_w, i32_w]
      rfl
    refine take_ (i := 1) (N := some 12) (v := ?_) (a' := ?_) #[true, true, true, false, true, false, false, false, false, false] rfl rfl (take_ofW HT_.out HW_.out (by kernel_rfl)) (fun _ _ _ h => h) (Or.inl ⟨by rfl, ?_⟩) hHeld ?_ ?_
    rotate_left
    · rintro w' ⟨s0, s1⟩
      go_simp
      with_reducible rfl
    rotate_left
    · simp only [Act.put, List.setIfInBounds_toArray, List.set_cons_zero, List.set_cons_succ, i64_w, i32_w]
      rfl
    refine take_ (i := 3) (N := some 14) (v := ?_) (a' := ?_) #[true, true, true, true, true, false, false, false, false, false] rfl rfl (take_ofW HT_.out HW_.out (by kernel_rfl)) (fun _ _ _ h => h) (Or.inl ⟨by rfl, ?_⟩) hHeld ?_ ?_
    rotate_left
    · rintro w' ⟨s0, s1⟩
      go_simp
      with_reducible rfl
    rotate_left
    · simp only [Act.put, List.setIfInBounds_toArray, List.set_cons_zero, List.set_cons_succ, i64_w, i32_w]
      rfl
    refine pure_ (i := 5) (N := some 16) (v := ?_) (a' := ?_) #[true, true, true, true, true, true, false, false, false, false] rfl rfl (any_of HT_.out (by kernel_rfl)) (fun _ _ _ h => h) (Or.inl ⟨by rfl, ?_⟩) ?_ ?_
    rotate_left
    · intro w'
      go_simp
      with_reducible rfl
    rotate_left
    · simp only [Act.put, List.setIfInBounds_toArray, List.set_cons_zero, List.set_cons_succ, i64_w, i32_w]
      rfl
    refine one_ (i := 6) (N := some 17) #[true, true, true, true, true, true, true, false, false, false] rfl rfl (one_of HT_.out (by kernel_rfl)) (by decide) (fun K hK => ?_)
    refine lit_step (n := 2) ?hg (N := 17) ?hd (cs := #[.slice A0_0 l0_0.length c0_0, .slice A0_1 (l0_1.take ((ji4) : Int).toNat).length c0_1]) (t := 22) ?hr ?_; (case hd => rfl); (case hg => rfl); (case hr => first | (go_simp; done) | (go_simp; rfl))
    intro gb25004 hg w14 hbox hb
    have n3_ := Aside0.mk (hbox)
    have n4_ := Aside0.mk ((by rw [hg]; exact (below_size (below_extB HB.out)) : w.heap.size ≤ gb25004))
    have n5_ := Aside0.mk ((by rw [hg]; exact (below_size (below_extB HB.out)) : w.heap.size ≤ gb25004))
    have n6_ := Aside0.mk ((by rw [hg]; exact Nat.ne_of_lt (blk_lt (blk_ext BK25001.out)) : gb25001 ≠ gb25004))
    have n7_ := Aside0.mk ((by rw [hg]; exact Nat.ne_of_gt (blk_lt (blk_ext BK25001.out)) : gb25004 ≠ gb25001))
    have n8_ := Aside0.mk ((by rw [hg]; exact Nat.ne_of_lt (blk_lt (blk_ext BK25002.out)) : gb25002 ≠ gb25004))
    have n9_ := Aside0.mk ((by rw [hg]; exact Nat.ne_of_gt (blk_lt (blk_ext BK25002.out)) : gb25004 ≠ gb25002))
    have BK25004 := n3_
    have GW25004 := n4_
    have GE25004 := n5_; have GI25004 := GE_.mk GE25004.out
    have NB25001_25004 := n6_
    have NB25004_25001 := n7_
    have NB25002_25004 := n8_
    have NB25004_25002 := n9_
    replace BK25001 := mvB BK25001 hb
    replace BK25002 := mvB BK25002 hb
    replace HB := mvH HB hb
    clear n3_ n4_ n5_ n6_ n7_ n8_ n9_
    clear hb hbox hg
    refine hK.out _ _ ⟨(blk_cell BK25001.out 0).trans rfl, (blk_cell BK25001.out 1).trans rfl⟩ (fun hHeld => ?_)
    clear hK K
    refine norm_ (a' := ?_) ?_ ?_
    rotate_left
    · show Act.put _ (some 17) _ = _
      simp only [Act.put, List.setIfInBounds_toArray, List.set_cons_zero, List.set_cons_succ, i64_w, i32_w]
      rfl
    refine one_ (i := 7) (N := some 18) #[true, true, true, true, true, true, true, true, false, false] rfl rfl (one_of HT_.out (by kernel_rfl)) (by decide) (fun K hK => ?_)
    refine goes_ Try.func65 (by kernel_rfl) rfl #[.slice (some ⟨gb25004, 0, none⟩) 2 2] (by rfl) rfl rfl (by (try simp only [List.map_toArray, List.map_cons, List.map_nil]); first | done | (rw [show (l0_1.take ((ji4) : Int).toNat).length = (ji4).toNat from (by rw [List.length_take]; have h_ : ((ji4) : Int) ≤ (l0_1.length : Int) := of_decide_eq_true (by first | (with_reducible assumption) | assumption); omega)] <;> rfl) | rfl | (simp only [List.length_drop, List.length_take]; rfl)) ?_
    with_reducible refine (slices_Concat_byte_byte.calls _ _ l0_0 _ _ (l0_1.take ((ji4) : Int).toNat) t25005 _ ?side1 ?side2 ?side3 ?side4 A7.out gb25004 (blk_ext BK25004.out)).mono ?_
    (case side1 => repeat (first | exact (Kd.C_below HR0_0.out HB.out) | (with_reducible refine Kd.C_alloc ?_ _) | (with_reducible refine Kd.C_drewN ?_ _) | (with_reducible refine Kd.C_drew ?_)))
    (case side2 => exact HC0_0.out)
    (case side3 => repeat (first | exact (Kd.C_below HR25003.out HB.out) | (with_reducible refine Kd.C_alloc ?_ _) | (with_reducible refine Kd.C_drewN ?_ _) | (with_reducible refine Kd.C_drew ?_)))
    (case side4 => exact HC25003.out)
    rintro e w15 ⟨v25006, rfl, ho0, hb⟩
    refine ⟨_, rfl, ?_⟩
    have n0_ := Aside0.mk (Kd.R_lower ho0 (below_size (below_extB HB.out)))
    have n3_ := Aside0.mk (blk_below (g := gb25004) (o := .cells #[.slice A0_0 l0_0.length c0_0, .slice A0_1 (l0_1.take ((ji4) : Int).toNat).length c0_1] 22 (0, 0)) (blk_ext BK25004.out) hb)
    clear BK25004
    have HO25007 := n0_
    have BK25004 := n3_
    replace BK25001 := mvB BK25001 hb
    replace BK25002 := mvB BK25002 hb
    replace HB := mvH HB hb
    clear n0_ n3_
    (try clear hb)
    (try clear hb2)
    (try clear hk)
    (try clear hi)
    (try clear ho0)
    obtain ⟨Ao16, co16, eo16⟩ := Kd.R_slice HO25007.out
    (first | subst eo16 | (injection eo16 with f1_ f2_ f3_; have f4_ := f1_.symm; have f5_ := f3_.symm; clear f1_ f2_ f3_; subst f4_; subst f5_))
    refine hK.out _ _ ⟨(blk_cell BK25001.out 0).trans rfl, (blk_cell BK25001.out 1).trans rfl⟩ (fun hHeld => ?_)
    clear hK K
    refine norm_ (a' := ?_) ?_ ?_
    rotate_left
    · show Act.put _ (some 18) _ = _
      simp only [Act.put, List.setIfInBounds_toArray, List.set_cons_zero, List.set_cons_succ, i64_w, i32_w]
      rfl
    refine pure_ (i := 8) (N := some 19) (v := ?_) (a' := ?_) #[true, true, true, true, true, true, true, true, true, false] rfl rfl (any_of HT_.out (by kernel_rfl)) (fun _ _ _ h => h) (Or.inl ⟨by rfl, ?_⟩) ?_ ?_
    rotate_left
    · intro w'
      go_simp
      with_reducible rfl
    rotate_left
    · simp only [Act.put, List.setIfInBounds_toArray, List.set_cons_zero, List.set_cons_succ, i64_w, i32_w]
      rfl
    refine one_ (i := 9) (N := none) #[true, true, true, true, true, true, true, true, true, true] rfl rfl (one_of HT_.out (by kernel_rfl)) (by decide) (fun K hK => ?_)
    have hs17 : w15.cell? ⟨gb25002, 0, none⟩ = some (.slice none 0 0) := (blk_cell BK25002.out 0).trans rfl
    have hfs17 := blk_frozen BK25002.out 0
    have hns17_0 := NB25001_25002.out
    have hns17_2 := NB25004_25002.out
    have hms17_0 := NB25002_25001.out
    have hms17_2 := NB25002_25004.out
    have hs18 : w15.cell? ⟨gb25002, 1, none⟩ = some (.slice none 0 0) := (blk_cell BK25002.out 1).trans rfl
    have hfs18 := blk_frozen BK25002.out 1
    have hns18_0 := NB25001_25002.out
    have hns18_2 := NB25004_25002.out
    have hms18_0 := NB25002_25001.out
    have hms18_2 := NB25002_25004.out
    refine skip_ (w1 := ?_) (by rfl) rfl ?_ ?_
    rotate_left
    · go_simp
      rfl
    refine hK.out _ _ ⟨((cell_far (p := ⟨gb25002, _, none⟩) NB25001_25002.out _).trans (((cell_far (p := ⟨gb25002, _, none⟩) NB25001_25002.out _).trans (hHeld.1)))), ((cell_far (p := ⟨gb25002, _, none⟩) NB25001_25002.out _).trans (((cell_far (p := ⟨gb25002, _, none⟩) NB25001_25002.out _).trans (hHeld.2))))⟩ (fun hHeld => ?_)
    clear hK K
    refine done_ (done_of HT_.out (by kernel_rfl)) ?_
    try go_wp2
    refine bodyPost_ret (results_cell_row rfl _ _ gb25002 24 #[.slice Ao16 t25005.length co16, .slice none 0 0] (0, 0) _ rfl (by (with_reducible repeat (first | refine blk_drewN ?_ _ | refine blk_drew ?_ | refine blk_alloc ?_ _)); refine blk_put (cs := #[.slice Ao16 t25005.length co16, .slice none 0 0]) ?_ 1 _ rfl; (with_reducible repeat (first | refine blk_drewN ?_ _ | refine blk_drew ?_ | refine blk_alloc ?_ _)); refine blk_put (cs := #[.slice none 0 0, .slice none 0 0]) ?_ 0 _ rfl; exact blk_ext BK25002.out) Try.underlying24 rfl (by kernel_rfl)) rfl ?_
    exact ⟨_, _, by first | rfl | (simp [errW_none, errW_some] <;> rfl) | (simp only [← hji3, ← hji4]; first | rfl | (simp [errW_none, errW_some] <;> rfl)) | (simp [*, errW_none, errW_some] <;> rfl), Kd.R_ext (Kd.R_mono (Kd.R_far (p := ⟨gb25002, 1, none⟩) (Kd.R_far (p := ⟨gb25002, 0, none⟩) (Kd.R_types HO25007.out BK25002.out (by decide)) (fun _ hk => hk.2) (.slice Ao16 t25005.length co16)) (fun _ hk => hk.2) (.slice none 0 0)) (fun _ hk => (by simp [Value.ownBlock]))), by first | exact Kd.R_nil _ _ _ _ _ | exact Kd.N_nil _ _ _ _ _ | exact Kd.V_nil _ _ _ _ _ | exact Kd.Q_nil _ _ _ _ _ | exact Kd.S_nil _ _ _ _ _, below_extB HB.out⟩
  · rw [if_neg c5] at H
    exact absurd H (by simp)

end Go.Proofs.Ytfljnggpnndmkaa.Z
