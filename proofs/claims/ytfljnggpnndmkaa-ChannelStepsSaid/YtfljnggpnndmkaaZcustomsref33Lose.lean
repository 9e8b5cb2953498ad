/- Written by a program of this session: each Go function as a plain Lean function, and that the machine's call does what it says. Conditions: none but those each theorem states. -/
import Derived.Test.YtfljnggpnndmkaaZ0
import Derived.Test.YtfljnggpnndmkaaZcustomsref33out
namespace Go.Proofs.Ytfljnggpnndmkaa.Z
open Go.RowKit Go.Proofs.YtfljnggpnndmkaaW.PrintWords Go.Proofs.YtfljnggpnndmkaaW.PrintLast Go.Proofs.YtfljnggpnndmkaaW.PrintMore
attribute [local go_sem] max2_int min2_int max_two min_two max_three min_three max_four min_four   -- for this text's walks alone
set_option linter.unusedVariables false
set_option linter.unusedSimpArgs false

/-! ### customsref33_Lose: function 42 -/
def customsref33_Lose.f (a0_0 : Int) (l0_1 : List Int) (l0_2 : List Int) (a1 : Int) : Option (Int × List Int × List Int × Int) := if a1 < 0 then (some (0, ([] : List Int), ([] : List Int), 2)) else (if a1 ≥ (l0_1.length : Int) then (some (0, ([] : List Int), ([] : List Int), 2)) else ((customsref33_out.f l0_1 a1).bind fun t42003 => (some (a0_0, t42003, l0_2, 0))))
def customsref33_Lose.T3 : Bool × List (List Nat × List Nat) := (true, [([], []), ([0], [0]), ([], []), ([2], [2]), ([], []), ([3, 4], [3, 4]), ([], []), ([6], [6]), ([1, 5, 7], [1, 5, 7]), ([8, 5, 0, 1, 2, 3, 4, 5, 6, 7, 8], [8]), ([9, 0, 1, 2, 3, 4, 5, 6, 7, 8, 9], [])])
def customsref33_Lose.B3 : List Nat := [0, 1, 0, 4, 0, 28, 0, 64, 255, 511, 1023]
theorem customsref33_Lose.tab3 : rtab .any (opsOf Try.f42 3) = customsref33_Lose.T3 := by kernel_rfl
theorem customsref33_Lose.bits3 : waitsOk customsref33_Lose.T3.2 customsref33_Lose.B3 = true := by kernel_rfl
set_option maxHeartbeats 8000000 in
set_option maxRecDepth 100000 in
theorem customsref33_Lose.calls (a0_0 : Int) (A0_1 : Option Addr) (c0_1 : Nat) (l0_1 : List Int) (P0_2_ : Nat → Prop) (A0_2 : Option Addr) (c0_2 : Nat) (l0_2 : List Int) (a1 : Int) (r1 : Int) (r2 : List Int) (r3 : List Int) (r4 : Int) (w : World) (hr0_1 : Kd.C (Kd.int .i64) w A0_1 l0_1.length l0_1) (hc0_1 : l0_1.length ≤ c0_1) (hs0_2 : Kd.V (Kd.int .i64) 3 w w.heap.size (fun k_ => P0_2_ k_) (.slice A0_2 l0_2.length c0_2) l0_2) (h : customsref33_Lose.f a0_0 l0_1 l0_2 a1 = some (r1, r2, r3, r4)) :
    Calls Try.prog 42 #[.agg #[.int .i64 a0_0, .slice A0_1 l0_1.length c0_1, .slice A0_2 l0_2.length c0_2], .int .i64 a1] w fun e w' => ∃ v1_ v2_ : Value, e = .returned (.tuple #[.agg #[.int .i64 r1, v1_, v2_], .int .i64 r4]) ∧ Kd.R (Kd.int .i64) 3 w' w.heap.size (fun k_ => (w.heap.size ≤ k_)) v1_ r2 ∧ Kd.V (Kd.int .i64) 3 w' w.heap.size (fun k_ => (P0_2_ k_ ∨ w.heap.size ≤ k_) ∧ some k_ ≠ (v1_ : Value).ownBlock) v2_ r3 ∧ Below w.heap.size w w' := by
  have hu44 := Try.underlying44
  have HR0_1 := Aside0.mk hr0_1
  have HC0_1 := Aside0.mk hc0_1
  clear hr0_1 hc0_1
  have HO0_2 := Aside0.mk (show Kd.V (Kd.int .i64) 3 w w.heap.size (fun k_ => (P0_2_ k_ ∨ w.heap.size ≤ k_)) (.slice A0_2 l0_2.length c0_2) l0_2 from Kd.V_mono hs0_2 (fun k_ hk => .inl hk))
  have HB := Aside0.mk (Below.refl w.heap.size w)
  have H : (if a1 < 0 then (some (0, ([] : List Int), ([] : List Int), 2)) else (if a1 ≥ (l0_1.length : Int) then (some (0, ([] : List Int), ([] : List Int), 2)) else ((customsref33_out.f l0_1 a1).bind fun t42003 => (some (a0_0, t42003, l0_2, 0))))) = some (r1, r2, r3, r4) := h
  clear h
  by_cases c3 : a1 < 0
  · rw [if_pos c3] at H
    have c3b0 : decide (a1 < 0) = true := decide_eq_true c3
    clear c3
    simp only [Option.some.injEq, Prod.mk.injEq] at H
    obtain ⟨rfl, rfl, rfl, rfl⟩ := H
    go_enter Try.func42, Try.ntmps42
    go_wp2_with (first | ((with_reducible refine gate_dst (N := 2) rfl ?_); (try (refine gate_guard (by rfl) ?_; dsimp only)); refine box_event ?hg (N := 2) ?hd (cs := #[.int .i64 a0_0, .slice A0_1 l0_1.length c0_1, .slice A0_2 l0_2.length c0_2]) (t := 44) ?hr ?_; (case hd => rfl); (case hg => rfl); (case hr => first | (go_simp; done) | (go_simp; rfl)); intro gb42001 hg w4 hbox hb; have n2_ := Aside0.mk (hbox); have n3_ := Aside0.mk ((by rw [hg]; exact (below_size (below_ext HB.out)) : w.heap.size ≤ gb42001)); have n4_ := Aside0.mk ((by rw [hg]; exact (below_size (below_ext HB.out)) : w.heap.size ≤ gb42001)); have BK42001 := n2_; have GW42001 := n3_; have GE42001 := n4_; have GI42001 := GE_.mk GE42001.out; replace HO0_2 := awV HO0_2 hb gb42001 hg; replace HB := mvH HB hb; clear n2_ n3_ n4_; clear hb hbox hg) | ((with_reducible refine gate_dst (N := 4) rfl ?_); (try (refine gate_guard (by rfl) ?_; dsimp only)); refine box_event ?hg (N := 4) ?hd (cs := #[.int .i64 0, .slice none 0 0, .slice none 0 0]) (t := 44) ?hr ?_; (case hd => rfl); (case hg => rfl); (case hr => first | (go_simp; done) | (go_simp; rfl)); intro gb42002 hg w5 hbox hb; have n3_ := Aside0.mk (hbox); have n4_ := Aside0.mk ((by rw [hg]; exact (below_size (below_extB HB.out)) : w.heap.size ≤ gb42002)); have n5_ := Aside0.mk ((by rw [hg]; exact (below_size (below_extB HB.out)) : w.heap.size ≤ gb42002)); have n6_ := Aside0.mk ((by rw [hg]; exact Nat.ne_of_lt (blk_lt (blk_ext BK42001.out)) : gb42001 ≠ gb42002)); have n7_ := Aside0.mk ((by rw [hg]; exact Nat.ne_of_gt (blk_lt (blk_ext BK42001.out)) : gb42002 ≠ gb42001)); have BK42002 := n3_; have GW42002 := n4_; have GE42002 := n5_; have GI42002 := GE_.mk GE42002.out; have NB42001_42002 := n6_; have NB42002_42001 := n7_; replace HO0_2 := awV HO0_2 hb gb42002 hg; replace BK42001 := mvB BK42001 hb; replace HB := mvH HB hb; clear n3_ n4_ n5_ n6_ n7_; clear hb hbox hg; have hnb6 := NB42002_42001.out; have hnc6 := NB42001_42002.out; have hcz7_0 : w5.cell? ⟨gb42002, 0, none⟩ = some (.int .i64 0) := (blk_cell BK42002.out 0).trans rfl; have hcz7_1 : w5.cell? ⟨gb42002, 1, none⟩ = some (.slice none 0 0) := (blk_cell BK42002.out 1).trans rfl; have hcz7_2 : w5.cell? ⟨gb42002, 2, none⟩ = some (.slice none 0 0) := (blk_cell BK42002.out 2).trans rfl; have hfz7_0 := blk_frozen BK42002.out 0; have hfz7_1 := blk_frozen BK42002.out 1; have hfz7_2 := blk_frozen BK42002.out 2))
    refine bodyPost_ret (results_ct rfl _ _ gb42002 44 #[.int .i64 0, .slice none 0 0, .slice none 0 0] (0, 0) _ rfl (by (with_reducible repeat (first | refine blk_drewN ?_ _ | refine blk_drew ?_ | refine blk_alloc ?_ _)); refine blk_put (cs := #[.int .i64 0, .slice none 0 0, .slice none 0 0]) ?_ 2 _ rfl; (with_reducible repeat (first | refine blk_drewN ?_ _ | refine blk_drew ?_ | refine blk_alloc ?_ _)); refine blk_put (cs := #[.int .i64 0, .slice none 0 0, .slice none 0 0]) ?_ 1 _ rfl; (with_reducible repeat (first | refine blk_drewN ?_ _ | refine blk_drew ?_ | refine blk_alloc ?_ _)); refine blk_put (cs := #[.int .i64 0, .slice none 0 0, .slice none 0 0]) ?_ 0 _ rfl; exact blk_ext BK42002.out) Try.underlying44 rfl (by kernel_rfl)) rfl ?_
    exact ⟨_, _, by first | rfl | (simp [errW_none, errW_some] <;> rfl) | (simp [*, errW_none, errW_some] <;> rfl), by first | exact Kd.R_nil _ _ _ _ _ | exact Kd.N_nil _ _ _ _ _ | exact Kd.V_nil _ _ _ _ _ | exact Kd.Q_nil _ _ _ _ _ | exact Kd.S_nil _ _ _ _ _, Kd.V_nil _ _ _ _ _, below_extB HB.out⟩
  · rw [if_neg c3] at H
    have c3b0 : decide (a1 < 0) = false := decide_eq_false c3
    clear c3
    by_cases c8 : a1 ≥ (l0_1.length : Int)
    · rw [if_pos c8] at H
      have c8b0 : decide ((l0_1.length : Int) ≤ a1) = true := decide_eq_true c8
      clear c8
      simp only [Option.some.injEq, Prod.mk.injEq] at H
      obtain ⟨rfl, rfl, rfl, rfl⟩ := H
      go_enter Try.func42, Try.ntmps42
      go_wp2_with (first | ((with_reducible refine gate_dst (N := 2) rfl ?_); (try (refine gate_guard (by rfl) ?_; dsimp only)); refine box_event ?hg (N := 2) ?hd (cs := #[.int .i64 a0_0, .slice A0_1 l0_1.length c0_1, .slice A0_2 l0_2.length c0_2]) (t := 44) ?hr ?_; (case hd => rfl); (case hg => rfl); (case hr => first | (go_simp; done) | (go_simp; rfl)); intro gb42001 hg w9 hbox hb; have n2_ := Aside0.mk (hbox); have n3_ := Aside0.mk ((by rw [hg]; exact (below_size (below_ext HB.out)) : w.heap.size ≤ gb42001)); have n4_ := Aside0.mk ((by rw [hg]; exact (below_size (below_ext HB.out)) : w.heap.size ≤ gb42001)); have BK42001 := n2_; have GW42001 := n3_; have GE42001 := n4_; have GI42001 := GE_.mk GE42001.out; replace HO0_2 := awV HO0_2 hb gb42001 hg; replace HB := mvH HB hb; clear n2_ n3_ n4_; clear hb hbox hg) | ((with_reducible refine gate_dst (N := 4) rfl ?_); (try (refine gate_guard (by rfl) ?_; dsimp only)); refine box_event ?hg (N := 4) ?hd (cs := #[.int .i64 0, .slice none 0 0, .slice none 0 0]) (t := 44) ?hr ?_; (case hd => rfl); (case hg => rfl); (case hr => first | (go_simp; done) | (go_simp; rfl)); intro gb42002 hg w10 hbox hb; have n3_ := Aside0.mk (hbox); have n4_ := Aside0.mk ((by rw [hg]; exact (below_size (below_extB HB.out)) : w.heap.size ≤ gb42002)); have n5_ := Aside0.mk ((by rw [hg]; exact (below_size (below_extB HB.out)) : w.heap.size ≤ gb42002)); have n6_ := Aside0.mk ((by rw [hg]; exact Nat.ne_of_lt (blk_lt (blk_ext BK42001.out)) : gb42001 ≠ gb42002)); have n7_ := Aside0.mk ((by rw [hg]; exact Nat.ne_of_gt (blk_lt (blk_ext BK42001.out)) : gb42002 ≠ gb42001)); have BK42002 := n3_; have GW42002 := n4_; have GE42002 := n5_; have GI42002 := GE_.mk GE42002.out; have NB42001_42002 := n6_; have NB42002_42001 := n7_; replace HO0_2 := awV HO0_2 hb gb42002 hg; replace BK42001 := mvB BK42001 hb; replace HB := mvH HB hb; clear n3_ n4_ n5_ n6_ n7_; clear hb hbox hg; have hnb11 := NB42001_42002.out; have hnc11 := NB42002_42001.out; have hcz12_0 : w10.cell? ⟨gb42001, 0, none⟩ = some (.int .i64 a0_0) := (blk_cell BK42001.out 0).trans rfl; have hcz12_1 : w10.cell? ⟨gb42001, 1, none⟩ = some (.slice A0_1 l0_1.length c0_1) := (blk_cell BK42001.out 1).trans rfl; have hcz12_2 : w10.cell? ⟨gb42001, 2, none⟩ = some (.slice A0_2 l0_2.length c0_2) := (blk_cell BK42001.out 2).trans rfl; have hfz12_0 := blk_frozen BK42001.out 0; have hfz12_1 := blk_frozen BK42001.out 1; have hfz12_2 := blk_frozen BK42001.out 2; have hcz13_0 : w10.cell? ⟨gb42002, 0, none⟩ = some (.int .i64 0) := (blk_cell BK42002.out 0).trans rfl; have hcz13_1 : w10.cell? ⟨gb42002, 1, none⟩ = some (.slice none 0 0) := (blk_cell BK42002.out 1).trans rfl; have hcz13_2 : w10.cell? ⟨gb42002, 2, none⟩ = some (.slice none 0 0) := (blk_cell BK42002.out 2).trans rfl; have hfz13_0 := blk_frozen BK42002.out 0; have hfz13_1 := blk_frozen BK42002.out 1; have hfz13_2 := blk_frozen BK42002.out 2))
      refine bodyPost_ret (results_ct rfl _ _ gb42002 44 #[.int .i64 0, .slice none 0 0, .slice none 0 0] (0, 0) _ rfl (by (with_reducible repeat (first | refine blk_drewN ?_ _ | refine blk_drew ?_ | refine blk_alloc ?_ _)); refine blk_put (cs := #[.int .i64 0, .slice none 0 0, .slice none 0 0]) ?_ 2 _ rfl; (with_reducible repeat (first | refine blk_drewN ?_ _ | refine blk_drew ?_ | refine blk_alloc ?_ _)); refine blk_put (cs := #[.int .i64 0, .slice none 0 0, .slice none 0 0]) ?_ 1 _ rfl; (with_reducible repeat (first | refine blk_drewN ?_ _ | refine blk_drew ?_ | refine blk_alloc ?_ _)); refine blk_put (cs := #[.int .i64 0, .slice none 0 0, .slice none 0 0]) ?_ 0 _ rfl; exact blk_ext BK42002.out) Try.underlying44 rfl (by kernel_rfl)) rfl ?_
      exact ⟨_, _, by first | rfl | (simp [errW_none, errW_some] <;> rfl) | (simp [*, errW_none, errW_some] <;> rfl), by first | exact Kd.R_nil _ _ _ _ _ | exact Kd.N_nil _ _ _ _ _ | exact Kd.V_nil _ _ _ _ _ | exact Kd.Q_nil _ _ _ _ _ | exact Kd.S_nil _ _ _ _ _, Kd.V_nil _ _ _ _ _, below_extB HB.out⟩
    · rw [if_neg c8] at H
      have c8b0 : decide ((l0_1.length : Int) ≤ a1) = false := decide_eq_false c8
      clear c8
      replace H := Option.bind_eq_some_iff.mp H
      obtain ⟨t42003, A140, H⟩ := H
      replace H : (some (a0_0, t42003, l0_2, 0)) = some (r1, r2, r3, r4) := H
      have A14 := Aside0.mk A140
      clear A140
      simp only [Option.some.injEq, Prod.mk.injEq] at H
      obtain ⟨rfl, rfl, rfl, rfl⟩ := H
      go_enter Try.func42, Try.ntmps42
      try go_wp2_with (first | ((with_reducible refine gate_dst (N := 2) rfl ?_); (try (refine gate_guard (by rfl) ?_; dsimp only)); refine box_event ?hg (N := 2) ?hd (cs := #[.int .i64 a0_0, .slice A0_1 l0_1.length c0_1, .slice A0_2 l0_2.length c0_2]) (t := 44) ?hr ?_; (case hd => rfl); (case hg => rfl); (case hr => first | (go_simp; done) | (go_simp; rfl)); intro gb42001 hg w15 hbox hb; have n2_ := Aside0.mk (hbox); have n3_ := Aside0.mk ((by rw [hg]; exact (below_size (below_ext HB.out)) : w.heap.size ≤ gb42001)); have n4_ := Aside0.mk ((by rw [hg]; exact (below_size (below_ext HB.out)) : w.heap.size ≤ gb42001)); have BK42001 := n2_; have GW42001 := n3_; have GE42001 := n4_; have GI42001 := GE_.mk GE42001.out; replace HO0_2 := awV HO0_2 hb gb42001 hg; replace HB := mvH HB hb; clear n2_ n3_ n4_; clear hb hbox hg) | ((with_reducible refine gate_dst (N := 4) rfl ?_); (try (refine gate_guard (by rfl) ?_; dsimp only)); refine box_event ?hg (N := 4) ?hd (cs := #[.int .i64 0, .slice none 0 0, .slice none 0 0]) (t := 44) ?hr ?_; (case hd => rfl); (case hg => rfl); (case hr => first | (go_simp; done) | (go_simp; rfl)); intro gb42002 hg w16 hbox hb; have n3_ := Aside0.mk (hbox); have n4_ := Aside0.mk ((by rw [hg]; exact (below_size (below_extB HB.out)) : w.heap.size ≤ gb42002)); have n5_ := Aside0.mk ((by rw [hg]; exact (below_size (below_extB HB.out)) : w.heap.size ≤ gb42002)); have n6_ := Aside0.mk ((by rw [hg]; exact Nat.ne_of_lt (blk_lt (blk_ext BK42001.out)) : gb42001 ≠ gb42002)); have n7_ := Aside0.mk ((by rw [hg]; exact Nat.ne_of_gt (blk_lt (blk_ext BK42001.out)) : gb42002 ≠ gb42001)); have BK42002 := n3_; have GW42002 := n4_; have GE42002 := n5_; have GI42002 := GE_.mk GE42002.out; have NB42001_42002 := n6_; have NB42002_42001 := n7_; replace HO0_2 := awV HO0_2 hb gb42002 hg; replace BK42001 := mvB BK42001 hb; replace HB := mvH HB hb; clear n3_ n4_ n5_ n6_ n7_; clear hb hbox hg; have hnb17 := NB42001_42002.out; have hnc17 := NB42002_42001.out; have hcz18_0 : w16.cell? ⟨gb42001, 0, none⟩ = some (.int .i64 a0_0) := (blk_cell BK42001.out 0).trans rfl; have hcz18_1 : w16.cell? ⟨gb42001, 1, none⟩ = some (.slice A0_1 l0_1.length c0_1) := (blk_cell BK42001.out 1).trans rfl; have hcz18_2 : w16.cell? ⟨gb42001, 2, none⟩ = some (.slice A0_2 l0_2.length c0_2) := (blk_cell BK42001.out 2).trans rfl; have hfz18_0 := blk_frozen BK42001.out 0; have hfz18_1 := blk_frozen BK42001.out 1; have hfz18_2 := blk_frozen BK42001.out 2))
      have n0_ := Aside0.mk (Kd.V_drew HO0_2.out)
      have n1_ := Aside0.mk (blk_drew BK42001.out)
      have n2_ := Aside0.mk (blk_drew BK42002.out)
      have n3_ := Aside0.mk (below_drew1 HB.out)
      clear HO0_2
      clear BK42001
      clear BK42002
      clear HB
      have HO0_2 := n0_
      have BK42001 := n1_
      have BK42002 := n2_
      have HB := n3_
      clear n0_ n1_ n2_ n3_
      refine start_ (n := 11) (S := fun w' => w'.cell? ⟨gb42001, 0, none⟩ = some (.int .i64 a0_0) ∧ w'.cell? ⟨gb42001, 1, none⟩ = some (.slice A0_1 l0_1.length c0_1) ∧ w'.cell? ⟨gb42001, 2, none⟩ = some (.slice A0_2 l0_2.length c0_2)) (ds := []) #[false, false, false, false, false, false, false, false, false, false, false] (by kernel_rfl) rfl rfl ⟨(blk_cell BK42001.out 0).trans rfl, (blk_cell BK42001.out 1).trans rfl, (blk_cell BK42001.out 2).trans rfl⟩ (fun hHeld => ?_); refine with_tabW customsref33_Lose.tab3 customsref33_Lose.bits3 (fun HT_ HW_ => ?_)
      generalize w16.drew = w19 at HO0_2 BK42001 BK42002 HB hHeld ⊢
      refine pure_ (i := 0) (N := some 16) (v := ?_) (a' := ?_) #[true, false, false, false, false, false, false, false, false, false, false] rfl rfl (any_of HT_.out (by kernel_rfl)) (fun _ _ _ h => h) (Or.inl ⟨by rfl, ?_⟩) ?_ ?_
      rotate_left
      · intro w'
        go_simp
        with_reducible rfl
      rotate_left
      · simp only [Act.put, List.setIfInBounds_toArray, List.set_cons_zero, List.set_cons_succ, i64_w, i32_w]
        rfl
      refine pure_ (i := 2) (N := some 18) (v := ?_) (a' := ?_) #[true, false, true, false, false, false, false, false, false, false, false] rfl rfl (any_of HT_.out (by kernel_rfl)) (fun _ _ _ h => h) (Or.inl ⟨by rfl, ?_⟩) ?_ ?_
      rotate_left
      · intro w'
        go_simp
        with_reducible rfl
      rotate_left
      · simp only [Act.put, List.setIfInBounds_toArray, List.set_cons_zero, List.set_cons_succ, i64_w, i32_w]
        rfl
      refine pure_ (i := 4) (N := some 20) (v := ?_) (a' := ?_) #[true, false, true, false, true, false, false, false, false, false, false] rfl rfl (any_of HT_.out (by kernel_rfl)) (fun _ _ _ h => h) (Or.inl ⟨by rfl, ?_⟩) ?_ ?_
      rotate_left
      · intro w'
        go_simp
        with_reducible rfl
      rotate_left
      · simp only [Act.put, List.setIfInBounds_toArray, List.set_cons_zero, List.set_cons_succ, i64_w, i32_w]
        rfl
      refine pure_ (i := 6) (N := some 22) (v := ?_) (a' := ?_) #[true, false, true, false, true, false, true, false, false, false, false] rfl rfl (any_of HT_.out (by kernel_rfl)) (fun _ _ _ h => h) (Or.inl ⟨by rfl, ?_⟩) ?_ ?_
      rotate_left
      · intro w'
        go_simp
        with_reducible rfl
      rotate_left
      · simp only [Act.put, List.setIfInBounds_toArray, List.set_cons_zero, List.set_cons_succ, i64_w, i32_w]
        rfl
      refine take_ (i := 1) (N := some 17) (v := ?_) (a' := ?_) #[true, true, true, false, true, false, true, false, false, false, false] rfl rfl (take_ofW HT_.out HW_.out (by kernel_rfl)) (fun _ _ _ h => h) (Or.inl ⟨by rfl, ?_⟩) hHeld ?_ ?_
      rotate_left
      · rintro w' ⟨s0, s1, s2⟩
        go_simp
        with_reducible rfl
      rotate_left
      · simp only [Act.put, List.setIfInBounds_toArray, List.set_cons_zero, List.set_cons_succ, i64_w, i32_w]
        rfl
      refine take_ (i := 3) (N := some 19) (v := ?_) (a' := ?_) #[true, true, true, true, true, false, true, false, false, false, false] rfl rfl (take_ofW HT_.out HW_.out (by kernel_rfl)) (fun _ _ _ h => h) (Or.inl ⟨by rfl, ?_⟩) hHeld ?_ ?_
      rotate_left
      · rintro w' ⟨s0, s1, s2⟩
        go_simp
        with_reducible rfl
      rotate_left
      · simp only [Act.put, List.setIfInBounds_toArray, List.set_cons_zero, List.set_cons_succ, i64_w, i32_w]
        rfl
      refine take_ (i := 7) (N := some 23) (v := ?_) (a' := ?_) #[true, true, true, true, true, false, true, true, false, false, false] rfl rfl (take_ofW HT_.out HW_.out (by kernel_rfl)) (fun _ _ _ h => h) (Or.inl ⟨by rfl, ?_⟩) hHeld ?_ ?_
      rotate_left
      · rintro w' ⟨s0, s1, s2⟩
        go_simp
        with_reducible rfl
      rotate_left
      · simp only [Act.put, List.setIfInBounds_toArray, List.set_cons_zero, List.set_cons_succ, i64_w, i32_w]
        rfl
      refine one_ (i := 5) (N := some 21) #[true, true, true, true, true, true, true, true, false, false, false] rfl rfl (one_of HT_.out (by kernel_rfl)) (by decide) (fun K hK => ?_)
      refine goes_ Try.func74 (by kernel_rfl) rfl #[.slice A0_1 l0_1.length c0_1, .int .i64 a1] (by rfl) rfl rfl (by (try simp only [List.map_toArray, List.map_cons, List.map_nil]); first | done | rfl | (simp only [List.length_drop, List.length_take]; rfl)) ?_
      with_reducible refine (customsref33_out.calls _ _ l0_1 a1 t42003 _ ?side1 ?side2 A14.out).mono ?_
      (case side1 => repeat (first | exact (Kd.C_below HR0_1.out HB.out) | (with_reducible refine Kd.C_alloc ?_ _) | (with_reducible refine Kd.C_drewN ?_ _) | (with_reducible refine Kd.C_drew ?_)))
      (case side2 => exact HC0_1.out)
      rintro e w20 ⟨v42004, rfl, ho0, hb⟩
      refine ⟨_, rfl, ?_⟩
      have n1_ := Aside0.mk (Kd.R_lower (Kd.R_newM (M := fun k_ => (w.heap.size ≤ k_)) ho0 (below_size (below_extB HB.out)) (fun k_ h_ => h_)) (below_size (below_extB HB.out)))
      have HO42005 := n1_
      replace HO0_2 := apV HO0_2 hb (Kd.R_base ho0)
      replace BK42001 := mvB BK42001 hb
      replace BK42002 := mvB BK42002 hb
      replace HB := mvH HB hb
      clear n1_
      (try clear hb)
      (try clear hb2)
      (try clear hk)
      (try clear hi)
      (try clear ho0)
      obtain ⟨Ao21, co21, eo21⟩ := Kd.R_slice HO42005.out
      (first | subst eo21 | (injection eo21 with f1_ f2_ f3_; have f4_ := f1_.symm; have f5_ := f3_.symm; clear f1_ f2_ f3_; subst f4_; subst f5_))
      refine hK.out _ _ ⟨(blk_cell BK42001.out 0).trans rfl, (blk_cell BK42001.out 1).trans rfl, (blk_cell BK42001.out 2).trans rfl⟩ (fun hHeld => ?_)
      clear hK K
      refine norm_ (a' := ?_) ?_ ?_
      rotate_left
      · show Act.put _ (some 21) _ = _
        simp only [Act.put, List.setIfInBounds_toArray, List.set_cons_zero, List.set_cons_succ, i64_w, i32_w]
        rfl
      refine pure_ (i := 8) (N := some 24) (v := ?_) (a' := ?_) #[true, true, true, true, true, true, true, true, true, false, false] rfl rfl (any_of HT_.out (by kernel_rfl)) (fun _ _ _ h => h) (Or.inl ⟨by rfl, ?_⟩) ?_ ?_
      rotate_left
      · intro w'
        go_simp
        with_reducible rfl
      rotate_left
      · simp only [Act.put, List.setIfInBounds_toArray, List.set_cons_zero, List.set_cons_succ, i64_w, i32_w]
        rfl
      refine one_ (i := 9) (N := none) #[true, true, true, true, true, true, true, true, true, true, false] rfl rfl (one_of HT_.out (by kernel_rfl)) (by decide) (fun K hK => ?_)
      have hs22 : w20.cell? ⟨gb42002, 0, none⟩ = some (.int .i64 0) := (blk_cell BK42002.out 0).trans rfl
      have hfs22 := blk_frozen BK42002.out 0
      have hns22_0 := NB42001_42002.out
      have hms22_0 := NB42002_42001.out
      have hs23 : w20.cell? ⟨gb42002, 1, none⟩ = some (.slice none 0 0) := (blk_cell BK42002.out 1).trans rfl
      have hfs23 := blk_frozen BK42002.out 1
      have hns23_0 := NB42001_42002.out
      have hms23_0 := NB42002_42001.out
      have hs24 : w20.cell? ⟨gb42002, 2, none⟩ = some (.slice none 0 0) := (blk_cell BK42002.out 2).trans rfl
      have hfs24 := blk_frozen BK42002.out 2
      have hns24_0 := NB42001_42002.out
      have hms24_0 := NB42002_42001.out
      refine skip_ (w1 := ?_) (by rfl) rfl ?_ ?_
      rotate_left
      · go_simp
        rfl
      refine hK.out _ _ ⟨((cell_far (p := ⟨gb42002, _, none⟩) NB42001_42002.out _).trans (((cell_far (p := ⟨gb42002, _, none⟩) NB42001_42002.out _).trans (((cell_far (p := ⟨gb42002, _, none⟩) NB42001_42002.out _).trans (hHeld.1)))))), ((cell_far (p := ⟨gb42002, _, none⟩) NB42001_42002.out _).trans (((cell_far (p := ⟨gb42002, _, none⟩) NB42001_42002.out _).trans (((cell_far (p := ⟨gb42002, _, none⟩) NB42001_42002.out _).trans (hHeld.2.1)))))), ((cell_far (p := ⟨gb42002, _, none⟩) NB42001_42002.out _).trans (((cell_far (p := ⟨gb42002, _, none⟩) NB42001_42002.out _).trans (((cell_far (p := ⟨gb42002, _, none⟩) NB42001_42002.out _).trans (hHeld.2.2))))))⟩ (fun hHeld => ?_)
      clear hK K
      refine pure_ (i := 10) (N := some 5) (v := ?_) (a' := ?_) #[true, true, true, true, true, true, true, true, true, true, true] rfl rfl (any_of HT_.out (by kernel_rfl)) (fun _ _ _ h => h) (Or.inl ⟨by rfl, ?_⟩) ?_ ?_
      rotate_left
      · intro w'
        go_simp
        with_reducible rfl
      rotate_left
      · simp only [Act.put, List.setIfInBounds_toArray, List.set_cons_zero, List.set_cons_succ, i64_w, i32_w]
        rfl
      refine done_ (done_of HT_.out (by kernel_rfl)) ?_
      try go_wp2
      refine bodyPost_ret (results_ct rfl _ _ gb42002 44 #[.int .i64 a0_0, .slice Ao21 t42003.length co21, .slice A0_2 l0_2.length c0_2] (0, 0) _ rfl (by (with_reducible repeat (first | refine blk_drewN ?_ _ | refine blk_drew ?_ | refine blk_alloc ?_ _)); refine blk_put (cs := #[.int .i64 a0_0, .slice Ao21 t42003.length co21, .slice none 0 0]) ?_ 2 _ rfl; (with_reducible repeat (first | refine blk_drewN ?_ _ | refine blk_drew ?_ | refine blk_alloc ?_ _)); refine blk_put (cs := #[.int .i64 a0_0, .slice none 0 0, .slice none 0 0]) ?_ 1 _ rfl; (with_reducible repeat (first | refine blk_drewN ?_ _ | refine blk_drew ?_ | refine blk_alloc ?_ _)); refine blk_put (cs := #[.int .i64 0, .slice none 0 0, .slice none 0 0]) ?_ 0 _ rfl; exact blk_ext BK42002.out) Try.underlying44 rfl (by kernel_rfl)) rfl ?_
      exact ⟨_, _, by first | rfl | (simp [errW_none, errW_some] <;> rfl) | (simp [*, errW_none, errW_some] <;> rfl), Kd.R_ext (Kd.R_mono (Kd.R_far (p := ⟨gb42002, 2, none⟩) (Kd.R_far (p := ⟨gb42002, 1, none⟩) (Kd.R_far (p := ⟨gb42002, 0, none⟩) (Kd.R_types HO42005.out BK42002.out (by decide)) (fun _ hk => hk.2) (.int .i64 a0_0)) (fun _ hk => hk.2) (.slice Ao21 t42003.length co21)) (fun _ hk => hk.2) (.slice A0_2 l0_2.length c0_2)) (fun _ hk => hk.1.1)), Kd.V_ext (Kd.V_mono (Kd.V_far (p := ⟨gb42002, 2, none⟩) (Kd.V_far (p := ⟨gb42002, 1, none⟩) (Kd.V_far (p := ⟨gb42002, 0, none⟩) (Kd.V_mono HO0_2.out (fun k_ hk => (⟨hk, hk.1.2⟩ : _ ∧ k_ ≠ gb42002))) (fun _ hk => hk.2) (.int .i64 a0_0)) (fun _ hk => hk.2) (.slice Ao21 t42003.length co21)) (fun _ hk => hk.2) (.slice A0_2 l0_2.length c0_2)) (fun _ hk => ⟨hk.1.1.1.1, hk.1.2⟩)), below_extB HB.out⟩

end Go.Proofs.Ytfljnggpnndmkaa.Z
