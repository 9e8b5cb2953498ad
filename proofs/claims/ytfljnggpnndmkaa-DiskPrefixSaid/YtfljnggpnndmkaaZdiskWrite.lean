/- Written by a program of this session: each Go function as a plain Lean function, and that the machine's call does what it says. Conditions: none but those each theorem states. -/
import Derived.Test.YtfljnggpnndmkaaZ0
import Derived.Test.YtfljnggpnndmkaaZslicesClonebytebyte
import Derived.Test.YtfljnggpnndmkaaZslicesConcatbytebyte
namespace Go.Proofs.Ytfljnggpnndmkaa.Z
open Go.RowKit Go.Proofs.YtfljnggpnndmkaaW.PrintWords Go.Proofs.YtfljnggpnndmkaaW.PrintLast Go.Proofs.YtfljnggpnndmkaaW.PrintMore
attribute [local go_sem] max2_int min2_int max_two min_two max_three min_three max_four min_four   -- for this text's walks alone
set_option linter.unusedVariables false
set_option linter.unusedSimpArgs false

/-! ### disk_Write: function 16 -/
def disk_Write.f (l0_0 : List Int) (l0_1 : List Int) (l1 : List Int) : Option (List Int × List Int × Int) := if (wrap64 ((wrap64 ((l0_0.length : Int) + (l0_1.length : Int))) + (l1.length : Int))) > 1000000 then (some (([] : List Int), ([] : List Int), 8)) else ((slices_Clone_byte_byte.f l0_0).bind fun t16003 => ((slices_Concat_byte_byte.f l0_1 l1).bind fun t16007 => (some (t16003, t16007, 0))))
def disk_Write.T3 : Bool × List (List Nat × List Nat) := (true, [([], []), ([0], [0]), ([1], [1]), ([], []), ([3], [3]), ([], []), ([4, 5], [4, 5]), ([6, 2], [6]), ([2, 7], [2, 7]), ([8, 7, 0, 1, 2, 3, 4, 5, 6, 7, 8], [8]), ([9, 0, 1, 2, 3, 4, 5, 6, 7, 8, 9], [])])
def disk_Write.B3 : List Nat := [0, 1, 3, 0, 8, 0, 56, 127, 255, 511, 1023]
theorem disk_Write.tab3 : rtab .any (opsOf Try.f16 3) = disk_Write.T3 := by kernel_rfl
theorem disk_Write.bits3 : waitsOk disk_Write.T3.2 disk_Write.B3 = true := by kernel_rfl
set_option maxHeartbeats 8000000 in
set_option maxRecDepth 100000 in
theorem disk_Write.calls (A0_0 : Option Addr) (c0_0 : Nat) (l0_0 : List Int) (A0_1 : Option Addr) (c0_1 : Nat) (l0_1 : List Int) (A1 : Option Addr) (c1 : Nat) (l1 : List Int) (r1 : List Int) (r2 : List Int) (r3 : Int) (w : World) (hr0_0 : Kd.C (Kd.int .u8) w A0_0 l0_0.length l0_0) (hc0_0 : l0_0.length ≤ c0_0) (hr0_1 : Kd.C (Kd.int .u8) w A0_1 l0_1.length l0_1) (hc0_1 : l0_1.length ≤ c0_1) (hr1 : Kd.C (Kd.int .u8) w A1 l1.length l1) (hc1 : l1.length ≤ c1) (h : disk_Write.f l0_0 l0_1 l1 = some (r1, r2, r3)) :
    Calls Try.prog 16 #[.agg #[.slice A0_0 l0_0.length c0_0, .slice A0_1 l0_1.length c0_1], .slice A1 l1.length c1] w fun e w' => ∃ v0_ v1_ : Value, e = .returned (.tuple #[.agg #[v0_, v1_], .int .i64 r3]) ∧ Kd.R (Kd.int .u8) 5 w' w.heap.size (fun k_ => some k_ ≠ (v1_ : Value).ownBlock) v0_ r1 ∧ Kd.R (Kd.int .u8) 5 w' w.heap.size (fun k_ => some k_ ≠ (v0_ : Value).ownBlock) v1_ r2 ∧ Below w.heap.size w w' := by
  have hu24 := Try.underlying24
  have HR0_0 := Aside0.mk hr0_0
  have HC0_0 := Aside0.mk hc0_0
  clear hr0_0 hc0_0
  have HR0_1 := Aside0.mk hr0_1
  have HC0_1 := Aside0.mk hc0_1
  clear hr0_1 hc0_1
  have HR1 := Aside0.mk hr1
  have HC1 := Aside0.mk hc1
  clear hr1 hc1
  have HB := Aside0.mk (Below.refl w.heap.size w)
  have H : (if (wrap64 ((wrap64 ((l0_0.length : Int) + (l0_1.length : Int))) + (l1.length : Int))) > 1000000 then (some (([] : List Int), ([] : List Int), 8)) else ((slices_Clone_byte_byte.f l0_0).bind fun t16003 => ((slices_Concat_byte_byte.f l0_1 l1).bind fun t16007 => (some (t16003, t16007, 0))))) = some (r1, r2, r3) := h
  clear h
  by_cases c3 : (wrap64 ((wrap64 ((l0_0.length : Int) + (l0_1.length : Int))) + (l1.length : Int))) > 1000000
  · rw [if_pos c3] at H
    have c3b0 : decide (1000000 < (wrap64 ((wrap64 ((l0_0.length : Int) + (l0_1.length : Int))) + (l1.length : Int)))) = true := decide_eq_true c3
    clear c3
    simp only [Option.some.injEq, Prod.mk.injEq] at H
    obtain ⟨rfl, rfl, rfl⟩ := H
    go_enter Try.func16, Try.ntmps16
    go_wp2_with (first | ((with_reducible refine gate_dst (N := 2) rfl ?_); refine box_event ?hg (N := 2) ?hd (cs := #[.slice A0_0 l0_0.length c0_0, .slice A0_1 l0_1.length c0_1]) (t := 24) ?hr ?_; (case hd => rfl); (case hg => rfl); (case hr => first | (go_simp; done) | (go_simp; rfl)); intro gb16001 hg w4 hbox hb; have n1_ := Aside0.mk (hbox); have n2_ := Aside0.mk ((by rw [hg]; exact (below_size (below_ext HB.out)) : w.heap.size ≤ gb16001)); have n3_ := Aside0.mk ((by rw [hg]; exact (below_size (below_ext HB.out)) : w.heap.size ≤ gb16001)); have BK16001 := n1_; have GW16001 := n2_; have GE16001 := n3_; have GI16001 := GE_.mk GE16001.out; replace HB := mvH HB hb; clear n1_ n2_ n3_; clear hb hbox hg) | ((with_reducible refine gate_dst (N := 4) rfl ?_); refine box_event ?hg (N := 4) ?hd (cs := #[.slice none 0 0, .slice none 0 0]) (t := 24) ?hr ?_; (case hd => rfl); (case hg => rfl); (case hr => first | (go_simp; done) | (go_simp; rfl)); intro gb16002 hg w5 hbox hb; have n2_ := Aside0.mk (hbox); have n3_ := Aside0.mk ((by rw [hg]; exact (below_size (below_extB HB.out)) : w.heap.size ≤ gb16002)); have n4_ := Aside0.mk ((by rw [hg]; exact (below_size (below_extB HB.out)) : w.heap.size ≤ gb16002)); have n5_ := Aside0.mk ((by rw [hg]; exact Nat.ne_of_lt (blk_lt (blk_ext BK16001.out)) : gb16001 ≠ gb16002)); have n6_ := Aside0.mk ((by rw [hg]; exact Nat.ne_of_gt (blk_lt (blk_ext BK16001.out)) : gb16002 ≠ gb16001)); have BK16002 := n2_; have GW16002 := n3_; have GE16002 := n4_; have GI16002 := GE_.mk GE16002.out; have NB16001_16002 := n5_; have NB16002_16001 := n6_; replace BK16001 := mvB BK16001 hb; replace HB := mvH HB hb; clear n2_ n3_ n4_ n5_ n6_; clear hb hbox hg; have hnb6 := NB16001_16002.out; have hnc6 := NB16002_16001.out; have hcz7_0 : w5.cell? ⟨gb16001, 0, none⟩ = some (.slice A0_0 l0_0.length c0_0) := (blk_cell BK16001.out 0).trans rfl; have hcz7_1 : w5.cell? ⟨gb16001, 1, none⟩ = some (.slice A0_1 l0_1.length c0_1) := (blk_cell BK16001.out 1).trans rfl; have hfz7_0 := blk_frozen BK16001.out 0; have hfz7_1 := blk_frozen BK16001.out 1; have hcz8_0 : w5.cell? ⟨gb16002, 0, none⟩ = some (.slice none 0 0) := (blk_cell BK16002.out 0).trans rfl; have hcz8_1 : w5.cell? ⟨gb16002, 1, none⟩ = some (.slice none 0 0) := (blk_cell BK16002.out 1).trans rfl; have hfz8_0 := blk_frozen BK16002.out 0; have hfz8_1 := blk_frozen BK16002.out 1))
    refine bodyPost_ret (results_ct rfl _ _ gb16002 24 #[.slice none 0 0, .slice none 0 0] (0, 0) _ rfl (by (with_reducible repeat (first | refine blk_drewN ?_ _ | refine blk_drew ?_ | refine blk_alloc ?_ _)); refine blk_put (cs := #[.slice none 0 0, .slice none 0 0]) ?_ 1 _ rfl; (with_reducible repeat (first | refine blk_drewN ?_ _ | refine blk_drew ?_ | refine blk_alloc ?_ _)); refine blk_put (cs := #[.slice none 0 0, .slice none 0 0]) ?_ 0 _ rfl; exact blk_ext BK16002.out) Try.underlying24 rfl (by kernel_rfl)) rfl ?_
    exact ⟨_, _, by first | rfl | (simp [errW_none, errW_some] <;> rfl) | (simp [*, errW_none, errW_some] <;> rfl), by first | exact Kd.R_nil _ _ _ _ _ | exact Kd.N_nil _ _ _ _ _ | exact Kd.V_nil _ _ _ _ _ | exact Kd.Q_nil _ _ _ _ _ | exact Kd.S_nil _ _ _ _ _, by first | exact Kd.R_nil _ _ _ _ _ | exact Kd.N_nil _ _ _ _ _ | exact Kd.V_nil _ _ _ _ _ | exact Kd.Q_nil _ _ _ _ _ | exact Kd.S_nil _ _ _ _ _, below_extB HB.out⟩
  · rw [if_neg c3] at H
    have c3b0 : decide (1000000 < (wrap64 ((wrap64 ((l0_0.length : Int) + (l0_1.length : Int))) + (l1.length : Int)))) = false := decide_eq_false c3
    clear c3
    replace H := Option.bind_eq_some_iff.mp H
    obtain ⟨t16003, A90, H⟩ := H
    replace H : ((slices_Concat_byte_byte.f l0_1 l1).bind fun t16007 => (some (t16003, t16007, 0))) = some (r1, r2, r3) := H
    have A9 := Aside0.mk A90
    clear A90
    replace H := Option.bind_eq_some_iff.mp H
    obtain ⟨t16007, A100, H⟩ := H
    replace H : (some (t16003, t16007, 0)) = some (r1, r2, r3) := H
    have A10 := Aside0.mk A100
    clear A100
    simp only [Option.some.injEq, Prod.mk.injEq] at H
    obtain ⟨rfl, rfl, rfl⟩ := H
    go_enter Try.func16, Try.ntmps16
    try go_wp2_with (first | ((with_reducible refine gate_dst (N := 2) rfl ?_); refine box_event ?hg (N := 2) ?hd (cs := #[.slice A0_0 l0_0.length c0_0, .slice A0_1 l0_1.length c0_1]) (t := 24) ?hr ?_; (case hd => rfl); (case hg => rfl); (case hr => first | (go_simp; done) | (go_simp; rfl)); intro gb16001 hg w11 hbox hb; have n1_ := Aside0.mk (hbox); have n2_ := Aside0.mk ((by rw [hg]; exact (below_size (below_ext HB.out)) : w.heap.size ≤ gb16001)); have n3_ := Aside0.mk ((by rw [hg]; exact (below_size (below_ext HB.out)) : w.heap.size ≤ gb16001)); have BK16001 := n1_; have GW16001 := n2_; have GE16001 := n3_; have GI16001 := GE_.mk GE16001.out; replace HB := mvH HB hb; clear n1_ n2_ n3_; clear hb hbox hg) | ((with_reducible refine gate_dst (N := 4) rfl ?_); refine box_event ?hg (N := 4) ?hd (cs := #[.slice none 0 0, .slice none 0 0]) (t := 24) ?hr ?_; (case hd => rfl); (case hg => rfl); (case hr => first | (go_simp; done) | (go_simp; rfl)); intro gb16002 hg w12 hbox hb; have n2_ := Aside0.mk (hbox); have n3_ := Aside0.mk ((by rw [hg]; exact (below_size (below_extB HB.out)) : w.heap.size ≤ gb16002)); have n4_ := Aside0.mk ((by rw [hg]; exact (below_size (below_extB HB.out)) : w.heap.size ≤ gb16002)); have n5_ := Aside0.mk ((by rw [hg]; exact Nat.ne_of_lt (blk_lt (blk_ext BK16001.out)) : gb16001 ≠ gb16002)); have n6_ := Aside0.mk ((by rw [hg]; exact Nat.ne_of_gt (blk_lt (blk_ext BK16001.out)) : gb16002 ≠ gb16001)); have BK16002 := n2_; have GW16002 := n3_; have GE16002 := n4_; have GI16002 := GE_.mk GE16002.out; have NB16001_16002 := n5_; have NB16002_16001 := n6_; replace BK16001 := mvB BK16001 hb; replace HB := mvH HB hb; clear n2_ n3_ n4_ n5_ n6_; clear hb hbox hg; have hnb13 := NB16001_16002.out; have hnc13 := NB16002_16001.out; have hcz14_0 : w12.cell? ⟨gb16001, 0, none⟩ = some (.slice A0_0 l0_0.length c0_0) := (blk_cell BK16001.out 0).trans rfl; have hcz14_1 : w12.cell? ⟨gb16001, 1, none⟩ = some (.slice A0_1 l0_1.length c0_1) := (blk_cell BK16001.out 1).trans rfl; have hfz14_0 := blk_frozen BK16001.out 0; have hfz14_1 := blk_frozen BK16001.out 1))
    have n0_ := Aside0.mk (blk_drew BK16001.out)
    have n1_ := Aside0.mk (blk_drew BK16002.out)
    have n2_ := Aside0.mk (below_drew1 HB.out)
    clear BK16001
    clear BK16002
    clear HB
    have BK16001 := n0_
    have BK16002 := n1_
    have HB := n2_
    clear n0_ n1_ n2_
    refine start_ (n := 11) (S := fun w' => w'.cell? ⟨gb16001, 0, none⟩ = some (.slice A0_0 l0_0.length c0_0) ∧ w'.cell? ⟨gb16001, 1, none⟩ = some (.slice A0_1 l0_1.length c0_1)) (ds := []) #[false, false, false, false, false, false, false, false, false, false, false] (by kernel_rfl) rfl rfl ⟨(blk_cell BK16001.out 0).trans rfl, (blk_cell BK16001.out 1).trans rfl⟩ (fun hHeld => ?_); refine with_tabW disk_Write.tab3 disk_Write.bits3 (fun HT_ HW_ => ?_)
    generalize w12.drew = w15 at BK16001 BK16002 HB hHeld ⊢
    refine pure_ (i := 0) (N := some 18) (v := ?_) (a' := ?_) #[true, false, false, false, false, false, false, false, false, false, false] rfl rfl (any_of HT_.out (by kernel_rfl)) (fun _ _ _ h => h) (Or.inl ⟨by rfl, ?_⟩) ?_ ?_
    rotate_left
    · intro w'
      go_simp
      with_reducible rfl
    rotate_left
    · simp only [Act.put, List.setIfInBounds_toArray, List.set_cons_zero, List.set_cons_succ, i64_w, i32_w]
      rfl
    refine pure_ (i := 3) (N := some 21) (v := ?_) (a' := ?_) #[true, false, false, true, false, false, false, false, false, false, false] rfl rfl (any_of HT_.out (by kernel_rfl)) (fun _ _ _ h => h) (Or.inl ⟨by rfl, ?_⟩) ?_ ?_
    rotate_left
    · intro w'
      go_simp
      with_reducible rfl
    rotate_left
    · simp only [Act.put, List.setIfInBounds_toArray, List.set_cons_zero, List.set_cons_succ, i64_w, i32_w]
      rfl
    refine pure_ (i := 5) (N := some 23) (v := ?_) (a' := ?_) #[true, false, false, true, false, true, false, false, false, false, false] rfl rfl (any_of HT_.out (by kernel_rfl)) (fun _ _ _ h => h) (Or.inl ⟨by rfl, ?_⟩) ?_ ?_
    rotate_left
    · intro w'
      go_simp
      with_reducible rfl
    rotate_left
    · simp only [Act.put, List.setIfInBounds_toArray, List.set_cons_zero, List.set_cons_succ, i64_w, i32_w]
      rfl
    refine take_ (i := 1) (N := some 19) (v := ?_) (a' := ?_) #[true, true, false, true, false, true, false, false, false, false, false] rfl rfl (take_ofW HT_.out HW_.out (by kernel_rfl)) (fun _ _ _ h => h) (Or.inl ⟨by rfl, ?_⟩) hHeld ?_ ?_
    rotate_left
    · rintro w' ⟨s0, s1⟩
      go_simp
      with_reducible rfl
    rotate_left
    · simp only [Act.put, List.setIfInBounds_toArray, List.set_cons_zero, List.set_cons_succ, i64_w, i32_w]
      rfl
    refine take_ (i := 4) (N := some 22) (v := ?_) (a' := ?_) #[true, true, false, true, true, true, false, false, false, false, false] rfl rfl (take_ofW HT_.out HW_.out (by kernel_rfl)) (fun _ _ _ h => h) (Or.inl ⟨by rfl, ?_⟩) hHeld ?_ ?_
    rotate_left
    · rintro w' ⟨s0, s1⟩
      go_simp
      with_reducible rfl
    rotate_left
    · simp only [Act.put, List.setIfInBounds_toArray, List.set_cons_zero, List.set_cons_succ, i64_w, i32_w]
      rfl
    refine join_ (σ := Value × Nat) 4 #[true, true, true, true, true, true, true, false, false, false, false] (fun s_ => [(20, s_.1), (24, .slice (some ⟨s_.2, 0, none⟩) 2 2)]) (fun s_ w' => (w'.cell? ⟨gb16001, 0, none⟩ = some (.slice A0_0 l0_0.length c0_0) ∧ w'.cell? ⟨gb16001, 1, none⟩ = some (.slice A0_1 l0_1.length c0_1)) ∧ (Kd.R (Kd.int .u8) 5 w' w.heap.size (fun _ => True) s_.1 t16003) ∧ (w'.heap[gb16001]? = some (.cells #[.slice A0_0 l0_0.length c0_0, .slice A0_1 l0_1.length c0_1] 24 (0, 0))) ∧ (w'.heap[gb16002]? = some (.cells #[.slice none 0 0, .slice none 0 0] 24 (0, 0))) ∧ (w'.heap[s_.2]? = some (.cells #[.slice A0_1 l0_1.length c0_1, .slice A1 l1.length c1] 22 (0, 0))) ∧ (w.heap.size ≤ s_.2) ∧ (w.heap.size ≤ s_.2) ∧ (gb16001 ≠ s_.2) ∧ (s_.2 ≠ gb16001) ∧ (gb16002 ≠ s_.2) ∧ (s_.2 ≠ gb16002) ∧ (Below w.heap.size w w')) ?_ ?_
    rotate_left
    · intro hCont
      refine two_ (i := 2) (j := 6) (Ni := some 20) (Nj := some 24) #[true, true, true, true, true, true, false, false, false, false, false] #[true, true, false, true, true, true, true, false, false, false, false] rfl rfl rfl rfl (two_of HT_.out (by kernel_rfl)) (by decide) (by decide) (fun K hK => ?_) (fun K hK => ?_)
      · skip
        refine goes_ Try.func64 (by kernel_rfl) rfl #[.slice A0_0 l0_0.length c0_0] (by rfl) rfl rfl (by (try simp only [List.map_toArray, List.map_cons, List.map_nil]); first | done | rfl | (simp only [List.length_drop, List.length_take]; rfl)) ?_
        with_reducible refine (slices_Clone_byte_byte.calls _ _ l0_0 t16003 _ ?side1 ?side2 A9.out).mono ?_
        (case side1 => repeat (first | exact (Kd.C_below HR0_0.out HB.out) | (with_reducible refine Kd.C_alloc ?_ _) | (with_reducible refine Kd.C_drewN ?_ _) | (with_reducible refine Kd.C_drew ?_)))
        (case side2 => exact HC0_0.out)
        rintro e w16 ⟨v16004, rfl, ho0, hb⟩
        refine ⟨_, rfl, ?_⟩
        have n0_ := Aside0.mk (Kd.R_lower ho0 (below_size (below_extB HB.out)))
        have HO16005 := n0_
        replace BK16001 := mvB BK16001 hb
        replace BK16002 := mvB BK16002 hb
        replace HB := mvH HB hb
        clear n0_
        (try clear hb)
        (try clear hb2)
        (try clear hk)
        (try clear hi)
        (try clear ho0)
        refine hK.out _ _ ⟨(blk_cell BK16001.out 0).trans rfl, (blk_cell BK16001.out 1).trans rfl⟩ (fun hHeld => ?_)
        clear hK K
        refine norm_ (a' := ?_) ?_ ?_
        rotate_left
        · show Act.put _ (some 20) _ = _
          simp only [Act.put, List.setIfInBounds_toArray, List.set_cons_zero, List.set_cons_succ, i64_w, i32_w]
          rfl
        refine one_ (i := 6) (N := some 24) #[true, true, true, true, true, true, true, false, false, false, false] rfl rfl (one_of HT_.out (by kernel_rfl)) (by decide) (fun K hK => ?_)
        refine lit_step (n := 2) ?hg (N := 24) ?hd (cs := #[.slice A0_1 l0_1.length c0_1, .slice A1 l1.length c1]) (t := 22) ?hr ?_; (case hd => rfl); (case hg => rfl); (case hr => first | (go_simp; done) | (go_simp; rfl))
        intro gb16006 hg w17 hbox hb
        have n4_ := Aside0.mk (hbox)
        have n5_ := Aside0.mk ((by rw [hg]; exact (below_size (below_extB HB.out)) : w.heap.size ≤ gb16006))
        have n6_ := Aside0.mk ((by rw [hg]; exact (below_size (below_extB HB.out)) : w.heap.size ≤ gb16006))
        have n7_ := Aside0.mk ((by rw [hg]; exact Nat.ne_of_lt (blk_lt (blk_ext BK16001.out)) : gb16001 ≠ gb16006))
        have n8_ := Aside0.mk ((by rw [hg]; exact Nat.ne_of_gt (blk_lt (blk_ext BK16001.out)) : gb16006 ≠ gb16001))
        have n9_ := Aside0.mk ((by rw [hg]; exact Nat.ne_of_lt (blk_lt (blk_ext BK16002.out)) : gb16002 ≠ gb16006))
        have n10_ := Aside0.mk ((by rw [hg]; exact Nat.ne_of_gt (blk_lt (blk_ext BK16002.out)) : gb16006 ≠ gb16002))
        have BK16006 := n4_
        have GW16006 := n5_
        have GE16006 := n6_; have GI16006 := GE_.mk GE16006.out
        have NB16001_16006 := n7_
        have NB16006_16001 := n8_
        have NB16002_16006 := n9_
        have NB16006_16002 := n10_
        replace HO16005 := mvR HO16005 hb
        replace BK16001 := mvB BK16001 hb
        replace BK16002 := mvB BK16002 hb
        replace HB := mvH HB hb
        clear n4_ n5_ n6_ n7_ n8_ n9_ n10_
        clear hb hbox hg
        refine hK.out _ _ ⟨(blk_cell BK16001.out 0).trans rfl, (blk_cell BK16001.out 1).trans rfl⟩ (fun hHeld => ?_)
        clear hK K
        refine norm_ (a' := ?_) ?_ ?_
        rotate_left
        · show Act.put _ (some 24) _ = _
          simp only [Act.put, List.setIfInBounds_toArray, List.set_cons_zero, List.set_cons_succ, i64_w, i32_w]
          rfl
        exact norm_ (by simp only [putAll, Act.put, List.setIfInBounds_toArray, List.set_cons_zero, List.set_cons_succ]) (hCont (v16004, gb16006) _ ⟨hHeld, (Kd.R_ext HO16005.out), (blk_ext BK16001.out), (blk_ext BK16002.out), (blk_ext BK16006.out), GW16006.out, GE16006.out, NB16001_16006.out, NB16006_16001.out, NB16002_16006.out, NB16006_16002.out, (below_extB HB.out)⟩)
      · skip
        refine lit_step (n := 2) ?hg (N := 24) ?hd (cs := #[.slice A0_1 l0_1.length c0_1, .slice A1 l1.length c1]) (t := 22) ?hr ?_; (case hd => rfl); (case hg => rfl); (case hr => first | (go_simp; done) | (go_simp; rfl))
        intro gb16006 hg w16 hbox hb
        have n3_ := Aside0.mk (hbox)
        have n4_ := Aside0.mk ((by rw [hg]; exact (below_size (below_extB HB.out)) : w.heap.size ≤ gb16006))
        have n5_ := Aside0.mk ((by rw [hg]; exact (below_size (below_extB HB.out)) : w.heap.size ≤ gb16006))
        have n6_ := Aside0.mk ((by rw [hg]; exact Nat.ne_of_lt (blk_lt (blk_ext BK16001.out)) : gb16001 ≠ gb16006))
        have n7_ := Aside0.mk ((by rw [hg]; exact Nat.ne_of_gt (blk_lt (blk_ext BK16001.out)) : gb16006 ≠ gb16001))
        have n8_ := Aside0.mk ((by rw [hg]; exact Nat.ne_of_lt (blk_lt (blk_ext BK16002.out)) : gb16002 ≠ gb16006))
        have n9_ := Aside0.mk ((by rw [hg]; exact Nat.ne_of_gt (blk_lt (blk_ext BK16002.out)) : gb16006 ≠ gb16002))
        have BK16006 := n3_
        have GW16006 := n4_
        have GE16006 := n5_; have GI16006 := GE_.mk GE16006.out
        have NB16001_16006 := n6_
        have NB16006_16001 := n7_
        have NB16002_16006 := n8_
        have NB16006_16002 := n9_
        replace BK16001 := mvB BK16001 hb
        replace BK16002 := mvB BK16002 hb
        replace HB := mvH HB hb
        clear n3_ n4_ n5_ n6_ n7_ n8_ n9_
        clear hb hbox hg
        refine hK.out _ _ ⟨(blk_cell BK16001.out 0).trans rfl, (blk_cell BK16001.out 1).trans rfl⟩ (fun hHeld => ?_)
        clear hK K
        refine norm_ (a' := ?_) ?_ ?_
        rotate_left
        · show Act.put _ (some 24) _ = _
          simp only [Act.put, List.setIfInBounds_toArray, List.set_cons_zero, List.set_cons_succ, i64_w, i32_w]
          rfl
        refine one_ (i := 2) (N := some 20) #[true, true, true, true, true, true, true, false, false, false, false] rfl rfl (one_of HT_.out (by kernel_rfl)) (by decide) (fun K hK => ?_)
        refine goes_ Try.func64 (by kernel_rfl) rfl #[.slice A0_0 l0_0.length c0_0] (by rfl) rfl rfl (by (try simp only [List.map_toArray, List.map_cons, List.map_nil]); first | done | rfl | (simp only [List.length_drop, List.length_take]; rfl)) ?_
        with_reducible refine (slices_Clone_byte_byte.calls _ _ l0_0 t16003 _ ?side1 ?side2 A9.out).mono ?_
        (case side1 => repeat (first | exact (Kd.C_below HR0_0.out HB.out) | (with_reducible refine Kd.C_alloc ?_ _) | (with_reducible refine Kd.C_drewN ?_ _) | (with_reducible refine Kd.C_drew ?_)))
        (case side2 => exact HC0_0.out)
        rintro e w17 ⟨v16004, rfl, ho0, hb⟩
        refine ⟨_, rfl, ?_⟩
        have n0_ := Aside0.mk (Kd.R_lower ho0 (below_size (below_extB HB.out)))
        have HO16005 := n0_
        replace BK16001 := mvB BK16001 hb
        replace BK16002 := mvB BK16002 hb
        replace BK16006 := mvB BK16006 hb
        replace HB := mvH HB hb
        clear n0_
        (try clear hb)
        (try clear hb2)
        (try clear hk)
        (try clear hi)
        (try clear ho0)
        refine hK.out _ _ ⟨(blk_cell BK16001.out 0).trans rfl, (blk_cell BK16001.out 1).trans rfl⟩ (fun hHeld => ?_)
        clear hK K
        refine norm_ (a' := ?_) ?_ ?_
        rotate_left
        · show Act.put _ (some 20) _ = _
          simp only [Act.put, List.setIfInBounds_toArray, List.set_cons_zero, List.set_cons_succ, i64_w, i32_w]
          rfl
        exact norm_ (by simp only [putAll, Act.put, List.setIfInBounds_toArray, List.set_cons_zero, List.set_cons_succ]) (hCont (v16004, gb16006) _ ⟨hHeld, (Kd.R_ext HO16005.out), (blk_ext BK16001.out), (blk_ext BK16002.out), (blk_ext BK16006.out), GW16006.out, GE16006.out, NB16001_16006.out, NB16006_16001.out, NB16002_16006.out, NB16006_16002.out, (below_extB HB.out)⟩)
    rintro ⟨v16004, gb16006⟩ w18 ⟨hS_, h0_, h1_, h2_, h3_, h4_, h5_, h6_, h7_, h8_, h9_, h10_⟩
    have n0_ : Aside0 (Kd.R (Kd.int .u8) 5 w18 w.heap.size (fun _ => True) v16004 t16003) := ⟨h0_⟩
    have n1_ : Aside0 (w18.heap[gb16001]? = some (.cells #[.slice A0_0 l0_0.length c0_0, .slice A0_1 l0_1.length c0_1] 24 (0, 0))) := ⟨h1_⟩
    have n2_ : Aside0 (w18.heap[gb16002]? = some (.cells #[.slice none 0 0, .slice none 0 0] 24 (0, 0))) := ⟨h2_⟩
    have n3_ : Aside0 (w18.heap[gb16006]? = some (.cells #[.slice A0_1 l0_1.length c0_1, .slice A1 l1.length c1] 22 (0, 0))) := ⟨h3_⟩
    have n4_ : Aside0 (w.heap.size ≤ gb16006) := ⟨h4_⟩
    have n5_ : Aside0 (w.heap.size ≤ gb16006) := ⟨h5_⟩
    have n6_ : Aside0 (gb16001 ≠ gb16006) := ⟨h6_⟩
    have n7_ : Aside0 (gb16006 ≠ gb16001) := ⟨h7_⟩
    have n8_ : Aside0 (gb16002 ≠ gb16006) := ⟨h8_⟩
    have n9_ : Aside0 (gb16006 ≠ gb16002) := ⟨h9_⟩
    have n10_ : Aside0 (Below w.heap.size w w18) := ⟨h10_⟩
    clear BK16001
    clear BK16002
    clear HB
    clear h0_ h1_ h2_ h3_ h4_ h5_ h6_ h7_ h8_ h9_ h10_
    have HO16005 := n0_
    have BK16001 := n1_
    have BK16002 := n2_
    have BK16006 := n3_
    have GW16006 := n4_
    have GE16006 := n5_; have GI16006 := GE_.mk GE16006.out
    have NB16001_16006 := n6_
    have NB16006_16001 := n7_
    have NB16002_16006 := n8_
    have NB16006_16002 := n9_
    have HB := n10_
    clear n0_ n1_ n2_ n3_ n4_ n5_ n6_ n7_ n8_ n9_ n10_
    have hHeld : w18.cell? ⟨gb16001, 0, none⟩ = some (.slice A0_0 l0_0.length c0_0) ∧ w18.cell? ⟨gb16001, 1, none⟩ = some (.slice A0_1 l0_1.length c0_1) := hS_
    refine norm_ (a' := ?_) ?_ ?_
    rotate_left
    · simp only [putAll, Act.put, List.setIfInBounds_toArray, List.set_cons_zero, List.set_cons_succ]
      rfl
    refine one_ (i := 7) (N := some 25) #[true, true, true, true, true, true, true, true, false, false, false] rfl rfl (one_of HT_.out (by kernel_rfl)) (by decide) (fun K hK => ?_)
    refine goes_ Try.func65 (by kernel_rfl) rfl #[.slice (some ⟨gb16006, 0, none⟩) 2 2] (by rfl) rfl rfl (by (try simp only [List.map_toArray, List.map_cons, List.map_nil]); first | done | rfl | (simp only [List.length_drop, List.length_take]; rfl)) ?_
    with_reducible refine (slices_Concat_byte_byte.calls _ _ l0_1 _ _ l1 t16007 _ ?side1 ?side2 ?side3 ?side4 A10.out gb16006 (blk_ext BK16006.out)).mono ?_
    (case side1 => repeat (first | exact (Kd.C_below HR0_1.out HB.out) | (with_reducible refine Kd.C_alloc ?_ _) | (with_reducible refine Kd.C_drewN ?_ _) | (with_reducible refine Kd.C_drew ?_)))
    (case side2 => exact HC0_1.out)
    (case side3 => repeat (first | exact (Kd.C_below HR1.out HB.out) | (with_reducible refine Kd.C_alloc ?_ _) | (with_reducible refine Kd.C_drewN ?_ _) | (with_reducible refine Kd.C_drew ?_)))
    (case side4 => exact HC1.out)
    rintro e w19 ⟨v16008, rfl, ho0, hb⟩
    refine ⟨_, rfl, ?_⟩
    have n1_ := Aside0.mk (Kd.R_lower (Kd.R_new' ho0 (Kd.R_lt (Kd.R_ext HO16005.out))) (below_size (below_extB HB.out)))
    have HO16009 := n1_
    replace HO16005 := apR HO16005 hb (Kd.R_base ho0)
    replace BK16001 := mvB BK16001 hb
    replace BK16002 := mvB BK16002 hb
    replace BK16006 := mvB BK16006 hb
    replace HB := mvH HB hb
    clear n1_
    (try clear hb)
    (try clear hb2)
    (try clear hk)
    (try clear hi)
    (try clear ho0)
    obtain ⟨Ao20, co20, eo20⟩ := Kd.R_slice HO16009.out
    (first | subst eo20 | (injection eo20 with f1_ f2_ f3_; have f4_ := f1_.symm; have f5_ := f3_.symm; clear f1_ f2_ f3_; subst f4_; subst f5_))
    obtain ⟨Ao21, co21, eo21⟩ := Kd.R_slice HO16005.out
    (first | subst eo21 | (injection eo21 with f1_ f2_ f3_; have f4_ := f1_.symm; have f5_ := f3_.symm; clear f1_ f2_ f3_; subst f4_; subst f5_))
    refine hK.out _ _ ⟨(blk_cell BK16001.out 0).trans rfl, (blk_cell BK16001.out 1).trans rfl⟩ (fun hHeld => ?_)
    clear hK K
    refine norm_ (a' := ?_) ?_ ?_
    rotate_left
    · show Act.put _ (some 25) _ = _
      simp only [Act.put, List.setIfInBounds_toArray, List.set_cons_zero, List.set_cons_succ, i64_w, i32_w]
      rfl
    refine pure_ (i := 8) (N := some 26) (v := ?_) (a' := ?_) #[true, true, true, true, true, true, true, true, true, false, false] rfl rfl (any_of HT_.out (by kernel_rfl)) (fun _ _ _ h => h) (Or.inl ⟨by rfl, ?_⟩) ?_ ?_
    rotate_left
    · intro w'
      go_simp
      with_reducible rfl
    rotate_left
    · simp only [Act.put, List.setIfInBounds_toArray, List.set_cons_zero, List.set_cons_succ, i64_w, i32_w]
      rfl
    refine one_ (i := 9) (N := none) #[true, true, true, true, true, true, true, true, true, true, false] rfl rfl (one_of HT_.out (by kernel_rfl)) (by decide) (fun K hK => ?_)
    have hs22 : w19.cell? ⟨gb16002, 0, none⟩ = some (.slice none 0 0) := (blk_cell BK16002.out 0).trans rfl
    have hfs22 := blk_frozen BK16002.out 0
    have hns22_0 := NB16001_16002.out
    have hns22_2 := NB16006_16002.out
    have hms22_0 := NB16002_16001.out
    have hms22_2 := NB16002_16006.out
    have hs23 : w19.cell? ⟨gb16002, 1, none⟩ = some (.slice none 0 0) := (blk_cell BK16002.out 1).trans rfl
    have hfs23 := blk_frozen BK16002.out 1
    have hns23_0 := NB16001_16002.out
    have hns23_2 := NB16006_16002.out
    have hms23_0 := NB16002_16001.out
    have hms23_2 := NB16002_16006.out
    refine skip_ (w1 := ?_) (by rfl) rfl ?_ ?_
    rotate_left
    · go_simp
      rfl
    refine hK.out _ _ ⟨((cell_far (p := ⟨gb16002, _, none⟩) NB16001_16002.out _).trans (((cell_far (p := ⟨gb16002, _, none⟩) NB16001_16002.out _).trans (hHeld.1)))), ((cell_far (p := ⟨gb16002, _, none⟩) NB16001_16002.out _).trans (((cell_far (p := ⟨gb16002, _, none⟩) NB16001_16002.out _).trans (hHeld.2))))⟩ (fun hHeld => ?_)
    clear hK K
    refine pure_ (i := 10) (N := some 5) (v := ?_) (a' := ?_) #[true, true, true, true, true, true, true, true, true, true, true] rfl rfl (any_of HT_.out (by kernel_rfl)) (fun _ _ _ h => h) (Or.inl ⟨by rfl, ?_⟩) ?_ ?_
    rotate_left
    · intro w'
      go_simp
      with_reducible rfl
    rotate_left
    · simp only [Act.put, List.setIfInBounds_toArray, List.set_cons_zero, List.set_cons_succ, i64_w, i32_w]
      rfl
    refine done_ (done_of HT_.out (by kernel_rfl)) ?_
    try go_wp2
    refine bodyPost_ret (results_ct rfl _ _ gb16002 24 #[.slice Ao21 t16003.length co21, .slice Ao20 t16007.length co20] (0, 0) _ rfl (by (with_reducible repeat (first | refine blk_drewN ?_ _ | refine blk_drew ?_ | refine blk_alloc ?_ _)); refine blk_put (cs := #[.slice Ao21 t16003.length co21, .slice none 0 0]) ?_ 1 _ rfl; (with_reducible repeat (first | refine blk_drewN ?_ _ | refine blk_drew ?_ | refine blk_alloc ?_ _)); refine blk_put (cs := #[.slice none 0 0, .slice none 0 0]) ?_ 0 _ rfl; exact blk_ext BK16002.out) Try.underlying24 rfl (by kernel_rfl)) rfl ?_
    exact ⟨_, _, by first | rfl | (simp [errW_none, errW_some] <;> rfl) | (simp [*, errW_none, errW_some] <;> rfl), Kd.R_ext (Kd.R_mono (Kd.R_far (p := ⟨gb16002, 1, none⟩) (Kd.R_far (p := ⟨gb16002, 0, none⟩) (Kd.R_types HO16005.out BK16002.out (by decide)) (fun _ hk => hk.2) (.slice Ao21 t16003.length co21)) (fun _ hk => hk.2) (.slice Ao20 t16007.length co20)) (fun _ hk => hk.1.2)), Kd.R_ext (Kd.R_mono (Kd.R_far (p := ⟨gb16002, 1, none⟩) (Kd.R_far (p := ⟨gb16002, 0, none⟩) (Kd.R_types HO16009.out BK16002.out (by decide)) (fun _ hk => hk.2) (.slice Ao21 t16003.length co21)) (fun _ hk => hk.2) (.slice Ao20 t16007.length co20)) (fun _ hk => hk.1.2)), below_extB HB.out⟩

end Go.Proofs.Ytfljnggpnndmkaa.Z
