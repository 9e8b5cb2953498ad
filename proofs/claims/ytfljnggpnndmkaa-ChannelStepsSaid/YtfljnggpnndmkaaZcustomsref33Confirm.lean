/- Written by a program of this session: each Go function as a plain Lean function, and that the machine's call does what it says. Conditions: none but those each theorem states. -/
import Derived.Test.YtfljnggpnndmkaaZ0
import Derived.Test.YtfljnggpnndmkaaZcustomsref33out
namespace Go.Proofs.Ytfljnggpnndmkaa.Z
open Go.RowKit Go.Proofs.YtfljnggpnndmkaaW.PrintWords Go.Proofs.YtfljnggpnndmkaaW.PrintLast Go.Proofs.YtfljnggpnndmkaaW.PrintMore
attribute [local go_sem] max2_int min2_int max_two min_two max_three min_three max_four min_four   -- for this text's walks alone
set_option linter.unusedVariables false
set_option linter.unusedSimpArgs false

/-! ### customsref33_Confirm: function 46 -/
def customsref33_Confirm.f (a0_0 : Int) (l0_1 : List Int) (l0_2 : List Int) (a1 : Int) : Option (Int × List Int × List Int × Int) := if a1 < 0 then (some (0, ([] : List Int), ([] : List Int), 2)) else (if a1 ≥ (l0_2.length : Int) then (some (0, ([] : List Int), ([] : List Int), 2)) else (if 0 ≤ a1 then (if a1 < (l0_2.length : Int) then ((customsref33_out.f l0_2 a1).bind fun t46004 => (some (mx a0_0 (rd l0_2 a1), l0_1, t46004, 0))) else (none)) else (none)))
def customsref33_Confirm.T3 : Bool × List (List Nat × List Nat) := (true, [([], []), ([0], [0]), ([], []), ([2], [2]), ([], []), ([3, 4], [3, 4]), ([5], [5]), ([1, 6], [1, 6]), ([], []), ([8], [8]), ([], []), ([10], [10]), ([], []), ([11, 12], [11, 12]), ([7, 9, 13], [7, 9, 13]), ([14, 13, 0, 1, 2, 3, 4, 5, 6, 7, 8, 9, 10, 11, 12, 13, 14], [14]), ([15, 0, 1, 2, 3, 4, 5, 6, 7, 8, 9, 10, 11, 12, 13, 14, 15], [])])
def customsref33_Confirm.B3 : List Nat := [0, 1, 0, 4, 0, 28, 60, 127, 0, 256, 0, 1024, 0, 7168, 16383, 32767, 65535]
theorem customsref33_Confirm.tab3 : rtab .any (opsOf Try.f46 3) = customsref33_Confirm.T3 := by kernel_rfl
theorem customsref33_Confirm.bits3 : waitsOk customsref33_Confirm.T3.2 customsref33_Confirm.B3 = true := by kernel_rfl
set_option maxHeartbeats 8000000 in
set_option maxRecDepth 100000 in
theorem customsref33_Confirm.calls (a0_0 : Int) (P0_1_ : Nat → Prop) (A0_1 : Option Addr) (c0_1 : Nat) (l0_1 : List Int) (A0_2 : Option Addr) (c0_2 : Nat) (l0_2 : List Int) (a1 : Int) (r1 : Int) (r2 : List Int) (r3 : List Int) (r4 : Int) (w : World) (hs0_1 : Kd.V (Kd.int .i64) 3 w w.heap.size (fun k_ => P0_1_ k_) (.slice A0_1 l0_1.length c0_1) l0_1) (hr0_2 : Kd.C (Kd.int .i64) w A0_2 l0_2.length l0_2) (hc0_2 : l0_2.length ≤ c0_2) (h : customsref33_Confirm.f a0_0 l0_1 l0_2 a1 = some (r1, r2, r3, r4)) :
    Calls Try.prog 46 #[.agg #[.int .i64 a0_0, .slice A0_1 l0_1.length c0_1, .slice A0_2 l0_2.length c0_2], .int .i64 a1] w fun e w' => ∃ v1_ v2_ : Value, e = .returned (.tuple #[.agg #[.int .i64 r1, v1_, v2_], .int .i64 r4]) ∧ Kd.V (Kd.int .i64) 3 w' w.heap.size (fun k_ => (P0_1_ k_ ∨ w.heap.size ≤ k_) ∧ some k_ ≠ (v2_ : Value).ownBlock) v1_ r2 ∧ Kd.R (Kd.int .i64) 3 w' w.heap.size (fun k_ => (w.heap.size ≤ k_)) v2_ r3 ∧ Below w.heap.size w w' := by
  have hu44 := Try.underlying44
  have HO0_1 := Aside0.mk (show Kd.V (Kd.int .i64) 3 w w.heap.size (fun k_ => (P0_1_ k_ ∨ w.heap.size ≤ k_)) (.slice A0_1 l0_1.length c0_1) l0_1 from Kd.V_mono hs0_1 (fun k_ hk => .inl hk))
  have HR0_2 := Aside0.mk hr0_2
  have HC0_2 := Aside0.mk hc0_2
  clear hr0_2 hc0_2
  have HB := Aside0.mk (Below.refl w.heap.size w)
  have H : (if a1 < 0 then (some (0, ([] : List Int), ([] : List Int), 2)) else (if a1 ≥ (l0_2.length : Int) then (some (0, ([] : List Int), ([] : List Int), 2)) else (if 0 ≤ a1 then (if a1 < (l0_2.length : Int) then ((customsref33_out.f l0_2 a1).bind fun t46004 => (some (mx a0_0 (rd l0_2 a1), l0_1, t46004, 0))) else (none)) else (none)))) = some (r1, r2, r3, r4) := h
  clear h
  by_cases c3 : a1 < 0
  · rw [if_pos c3] at H
    have c3b0 : decide (a1 < 0) = true := decide_eq_true c3
    clear c3
    simp only [Option.some.injEq, Prod.mk.injEq] at H
    obtain ⟨rfl, rfl, rfl, rfl⟩ := H
    go_enter Try.func46, Try.ntmps46
    go_wp2_with (first | ((with_reducible refine gate_dst (N := 2) rfl ?_); (try (refine gate_guard (by rfl) ?_; dsimp only)); refine box_event ?hg (N := 2) ?hd (cs := #[.int .i64 a0_0, .slice A0_1 l0_1.length c0_1, .slice A0_2 l0_2.length c0_2]) (t := 44) ?hr ?_; (case hd => rfl); (case hg => rfl); (case hr => first | (go_simp; done) | (go_simp; rfl)); intro gb46001 hg w4 hbox hb; have n2_ := Aside0.mk (hbox); have n3_ := Aside0.mk ((by rw [hg]; exact (below_size (below_ext HB.out)) : w.heap.size ≤ gb46001)); have n4_ := Aside0.mk ((by rw [hg]; exact (below_size (below_ext HB.out)) : w.heap.size ≤ gb46001)); have BK46001 := n2_; have GW46001 := n3_; have GE46001 := n4_; have GI46001 := GE_.mk GE46001.out; replace HO0_1 := awV HO0_1 hb gb46001 hg; replace HB := mvH HB hb; clear n2_ n3_ n4_; clear hb hbox hg) | ((with_reducible refine gate_dst (N := 4) rfl ?_); (try (refine gate_guard (by rfl) ?_; dsimp only)); refine box_event ?hg (N := 4) ?hd (cs := #[.int .i64 0, .slice none 0 0, .slice none 0 0]) (t := 44) ?hr ?_; (case hd => rfl); (case hg => rfl); (case hr => first | (go_simp; done) | (go_simp; rfl)); intro gb46002 hg w5 hbox hb; have n3_ := Aside0.mk (hbox); have n4_ := Aside0.mk ((by rw [hg]; exact (below_size (below_extB HB.out)) : w.heap.size ≤ gb46002)); have n5_ := Aside0.mk ((by rw [hg]; exact (below_size (below_extB HB.out)) : w.heap.size ≤ gb46002)); have n6_ := Aside0.mk ((by rw [hg]; exact Nat.ne_of_lt (blk_lt (blk_ext BK46001.out)) : gb46001 ≠ gb46002)); have n7_ := Aside0.mk ((by rw [hg]; exact Nat.ne_of_gt (blk_lt (blk_ext BK46001.out)) : gb46002 ≠ gb46001)); have BK46002 := n3_; have GW46002 := n4_; have GE46002 := n5_; have GI46002 := GE_.mk GE46002.out; have NB46001_46002 := n6_; have NB46002_46001 := n7_; replace HO0_1 := awV HO0_1 hb gb46002 hg; replace BK46001 := mvB BK46001 hb; replace HB := mvH HB hb; clear n3_ n4_ n5_ n6_ n7_; clear hb hbox hg; have hnb6 := NB46002_46001.out; have hnc6 := NB46001_46002.out; have hcz7_0 : w5.cell? ⟨gb46002, 0, none⟩ = some (.int .i64 0) := (blk_cell BK46002.out 0).trans rfl; have hcz7_1 : w5.cell? ⟨gb46002, 1, none⟩ = some (.slice none 0 0) := (blk_cell BK46002.out 1).trans rfl; have hcz7_2 : w5.cell? ⟨gb46002, 2, none⟩ = some (.slice none 0 0) := (blk_cell BK46002.out 2).trans rfl; have hfz7_0 := blk_frozen BK46002.out 0; have hfz7_1 := blk_frozen BK46002.out 1; have hfz7_2 := blk_frozen BK46002.out 2))
    refine bodyPost_ret (results_ct rfl _ _ gb46002 44 #[.int .i64 0, .slice none 0 0, .slice none 0 0] (0, 0) _ rfl (by (with_reducible repeat (first | refine blk_drewN ?_ _ | refine blk_drew ?_ | refine blk_alloc ?_ _)); refine blk_put (cs := #[.int .i64 0, .slice none 0 0, .slice none 0 0]) ?_ 2 _ rfl; (with_reducible repeat (first | refine blk_drewN ?_ _ | refine blk_drew ?_ | refine blk_alloc ?_ _)); refine blk_put (cs := #[.int .i64 0, .slice none 0 0, .slice none 0 0]) ?_ 1 _ rfl; (with_reducible repeat (first | refine blk_drewN ?_ _ | refine blk_drew ?_ | refine blk_alloc ?_ _)); refine blk_put (cs := #[.int .i64 0, .slice none 0 0, .slice none 0 0]) ?_ 0 _ rfl; exact blk_ext BK46002.out) Try.underlying44 rfl (by kernel_rfl)) rfl ?_
    exact ⟨_, _, by first | rfl | (simp [errW_none, errW_some] <;> rfl) | (simp [*, errW_none, errW_some] <;> rfl), Kd.V_nil _ _ _ _ _, by first | exact Kd.R_nil _ _ _ _ _ | exact Kd.N_nil _ _ _ _ _ | exact Kd.V_nil _ _ _ _ _ | exact Kd.Q_nil _ _ _ _ _ | exact Kd.S_nil _ _ _ _ _, below_extB HB.out⟩
  · rw [if_neg c3] at H
    have c3b0 : decide (a1 < 0) = false := decide_eq_false c3
    clear c3
    by_cases c8 : a1 ≥ (l0_2.length : Int)
    · rw [if_pos c8] at H
      have c8b0 : decide ((l0_2.length : Int) ≤ a1) = true := decide_eq_true c8
      clear c8
      simp only [Option.some.injEq, Prod.mk.injEq] at H
      obtain ⟨rfl, rfl, rfl, rfl⟩ := H
      go_enter Try.func46, Try.ntmps46
      go_wp2_with (first | ((with_reducible refine gate_dst (N := 2) rfl ?_); (try (refine gate_guard (by rfl) ?_; dsimp only)); refine box_event ?hg (N := 2) ?hd (cs := #[.int .i64 a0_0, .slice A0_1 l0_1.length c0_1, .slice A0_2 l0_2.length c0_2]) (t := 44) ?hr ?_; (case hd => rfl); (case hg => rfl); (case hr => first | (go_simp; done) | (go_simp; rfl)); intro gb46001 hg w9 hbox hb; have n2_ := Aside0.mk (hbox); have n3_ := Aside0.mk ((by rw [hg]; exact (below_size (below_ext HB.out)) : w.heap.size ≤ gb46001)); have n4_ := Aside0.mk ((by rw [hg]; exact (below_size (below_ext HB.out)) : w.heap.size ≤ gb46001)); have BK46001 := n2_; have GW46001 := n3_; have GE46001 := n4_; have GI46001 := GE_.mk GE46001.out; replace HO0_1 := awV HO0_1 hb gb46001 hg; replace HB := mvH HB hb; clear n2_ n3_ n4_; clear hb hbox hg) | ((with_reducible refine gate_dst (N := 4) rfl ?_); (try (refine gate_guard (by rfl) ?_; dsimp only)); refine box_event ?hg (N := 4) ?hd (cs := #[.int .i64 0, .slice none 0 0, .slice none 0 0]) (t := 44) ?hr ?_; (case hd => rfl); (case hg => rfl); (case hr => first | (go_simp; done) | (go_simp; rfl)); intro gb46002 hg w10 hbox hb; have n3_ := Aside0.mk (hbox); have n4_ := Aside0.mk ((by rw [hg]; exact (below_size (below_extB HB.out)) : w.heap.size ≤ gb46002)); have n5_ := Aside0.mk ((by rw [hg]; exact (below_size (below_extB HB.out)) : w.heap.size ≤ gb46002)); have n6_ := Aside0.mk ((by rw [hg]; exact Nat.ne_of_lt (blk_lt (blk_ext BK46001.out)) : gb46001 ≠ gb46002)); have n7_ := Aside0.mk ((by rw [hg]; exact Nat.ne_of_gt (blk_lt (blk_ext BK46001.out)) : gb46002 ≠ gb46001)); have BK46002 := n3_; have GW46002 := n4_; have GE46002 := n5_; have GI46002 := GE_.mk GE46002.out; have NB46001_46002 := n6_; have NB46002_46001 := n7_; replace HO0_1 := awV HO0_1 hb gb46002 hg; replace BK46001 := mvB BK46001 hb; replace HB := mvH HB hb; clear n3_ n4_ n5_ n6_ n7_; clear hb hbox hg; have hnb11 := NB46001_46002.out; have hnc11 := NB46002_46001.out; have hcz12_0 : w10.cell? ⟨gb46001, 0, none⟩ = some (.int .i64 a0_0) := (blk_cell BK46001.out 0).trans rfl; have hcz12_1 : w10.cell? ⟨gb46001, 1, none⟩ = some (.slice A0_1 l0_1.length c0_1) := (blk_cell BK46001.out 1).trans rfl; have hcz12_2 : w10.cell? ⟨gb46001, 2, none⟩ = some (.slice A0_2 l0_2.length c0_2) := (blk_cell BK46001.out 2).trans rfl; have hfz12_0 := blk_frozen BK46001.out 0; have hfz12_1 := blk_frozen BK46001.out 1; have hfz12_2 := blk_frozen BK46001.out 2; have hcz13_0 : w10.cell? ⟨gb46002, 0, none⟩ = some (.int .i64 0) := (blk_cell BK46002.out 0).trans rfl; have hcz13_1 : w10.cell? ⟨gb46002, 1, none⟩ = some (.slice none 0 0) := (blk_cell BK46002.out 1).trans rfl; have hcz13_2 : w10.cell? ⟨gb46002, 2, none⟩ = some (.slice none 0 0) := (blk_cell BK46002.out 2).trans rfl; have hfz13_0 := blk_frozen BK46002.out 0; have hfz13_1 := blk_frozen BK46002.out 1; have hfz13_2 := blk_frozen BK46002.out 2))
      refine bodyPost_ret (results_ct rfl _ _ gb46002 44 #[.int .i64 0, .slice none 0 0, .slice none 0 0] (0, 0) _ rfl (by (with_reducible repeat (first | refine blk_drewN ?_ _ | refine blk_drew ?_ | refine blk_alloc ?_ _)); refine blk_put (cs := #[.int .i64 0, .slice none 0 0, .slice none 0 0]) ?_ 2 _ rfl; (with_reducible repeat (first | refine blk_drewN ?_ _ | refine blk_drew ?_ | refine blk_alloc ?_ _)); refine blk_put (cs := #[.int .i64 0, .slice none 0 0, .slice none 0 0]) ?_ 1 _ rfl; (with_reducible repeat (first | refine blk_drewN ?_ _ | refine blk_drew ?_ | refine blk_alloc ?_ _)); refine blk_put (cs := #[.int .i64 0, .slice none 0 0, .slice none 0 0]) ?_ 0 _ rfl; exact blk_ext BK46002.out) Try.underlying44 rfl (by kernel_rfl)) rfl ?_
      exact ⟨_, _, by first | rfl | (simp [errW_none, errW_some] <;> rfl) | (simp [*, errW_none, errW_some] <;> rfl), Kd.V_nil _ _ _ _ _, by first | exact Kd.R_nil _ _ _ _ _ | exact Kd.N_nil _ _ _ _ _ | exact Kd.V_nil _ _ _ _ _ | exact Kd.Q_nil _ _ _ _ _ | exact Kd.S_nil _ _ _ _ _, below_extB HB.out⟩
    · rw [if_neg c8] at H
      have c8b0 : decide ((l0_2.length : Int) ≤ a1) = false := decide_eq_false c8
      clear c8
      by_cases c14 : 0 ≤ a1
      · rw [if_pos c14] at H
        have c14b0 : decide (0 ≤ a1) = true := decide_eq_true c14
        clear c14
        replace H := if_some H; obtain ⟨c15, H⟩ := H
        have c15b0 : decide (a1 < (l0_2.length : Int)) = true := decide_eq_true c15
        clear c15
        obtain ⟨ji16, hji16⟩ : ∃ j_ : Int, (mx a0_0 (rd l0_2 a1)) = j_ := ⟨_, rfl⟩
        replace H : ((customsref33_out.f l0_2 a1).bind fun t46004 => (some (ji16, l0_1, t46004, 0))) = some (r1, r2, r3, r4) := by first | (rw [hji16] at H; exact H) | (simp only [hji16] at H ⊢; exact H)
        have hji16_ : (if a0_0 < (rd l0_2 a1) then (rd l0_2 a1) else a0_0) = ji16 := hji16
        replace H := Option.bind_eq_some_iff.mp H
        obtain ⟨t46004, A170, H⟩ := H
        replace H : (some (ji16, l0_1, t46004, 0)) = some (r1, r2, r3, r4) := H
        have A17 := Aside0.mk A170
        clear A170
        simp only [Option.some.injEq, Prod.mk.injEq] at H
        obtain ⟨rfl, rfl, rfl, rfl⟩ := H
        go_enter Try.func46, Try.ntmps46
        try go_wp2_with (first | ((with_reducible refine gate_dst (N := 2) rfl ?_); (try (refine gate_guard (by rfl) ?_; dsimp only)); refine box_event ?hg (N := 2) ?hd (cs := #[.int .i64 a0_0, .slice A0_1 l0_1.length c0_1, .slice A0_2 l0_2.length c0_2]) (t := 44) ?hr ?_; (case hd => rfl); (case hg => rfl); (case hr => first | (go_simp; done) | (go_simp; rfl)); intro gb46001 hg w18 hbox hb; have n2_ := Aside0.mk (hbox); have n3_ := Aside0.mk ((by rw [hg]; exact (below_size (below_ext HB.out)) : w.heap.size ≤ gb46001)); have n4_ := Aside0.mk ((by rw [hg]; exact (below_size (below_ext HB.out)) : w.heap.size ≤ gb46001)); have BK46001 := n2_; have GW46001 := n3_; have GE46001 := n4_; have GI46001 := GE_.mk GE46001.out; replace HO0_1 := awV HO0_1 hb gb46001 hg; replace HB := mvH HB hb; clear n2_ n3_ n4_; clear hb hbox hg) | ((with_reducible refine gate_dst (N := 4) rfl ?_); (try (refine gate_guard (by rfl) ?_; dsimp only)); refine box_event ?hg (N := 4) ?hd (cs := #[.int .i64 0, .slice none 0 0, .slice none 0 0]) (t := 44) ?hr ?_; (case hd => rfl); (case hg => rfl); (case hr => first | (go_simp; done) | (go_simp; rfl)); intro gb46002 hg w19 hbox hb; have n3_ := Aside0.mk (hbox); have n4_ := Aside0.mk ((by rw [hg]; exact (below_size (below_extB HB.out)) : w.heap.size ≤ gb46002)); have n5_ := Aside0.mk ((by rw [hg]; exact (below_size (below_extB HB.out)) : w.heap.size ≤ gb46002)); have n6_ := Aside0.mk ((by rw [hg]; exact Nat.ne_of_lt (blk_lt (blk_ext BK46001.out)) : gb46001 ≠ gb46002)); have n7_ := Aside0.mk ((by rw [hg]; exact Nat.ne_of_gt (blk_lt (blk_ext BK46001.out)) : gb46002 ≠ gb46001)); have BK46002 := n3_; have GW46002 := n4_; have GE46002 := n5_; have GI46002 := GE_.mk GE46002.out; have NB46001_46002 := n6_; have NB46002_46001 := n7_; replace HO0_1 := awV HO0_1 hb gb46002 hg; replace BK46001 := mvB BK46001 hb; replace HB := mvH HB hb; clear n3_ n4_ n5_ n6_ n7_; clear hb hbox hg; have hnb20 := NB46001_46002.out; have hnc20 := NB46002_46001.out; have hcz21_0 : w19.cell? ⟨gb46001, 0, none⟩ = some (.int .i64 a0_0) := (blk_cell BK46001.out 0).trans rfl; have hcz21_1 : w19.cell? ⟨gb46001, 1, none⟩ = some (.slice A0_1 l0_1.length c0_1) := (blk_cell BK46001.out 1).trans rfl; have hcz21_2 : w19.cell? ⟨gb46001, 2, none⟩ = some (.slice A0_2 l0_2.length c0_2) := (blk_cell BK46001.out 2).trans rfl; have hfz21_0 := blk_frozen BK46001.out 0; have hfz21_1 := blk_frozen BK46001.out 1; have hfz21_2 := blk_frozen BK46001.out 2))
        have n0_ := Aside0.mk (Kd.V_drew HO0_1.out)
        have n1_ := Aside0.mk (blk_drew BK46001.out)
        have n2_ := Aside0.mk (blk_drew BK46002.out)
        have n3_ := Aside0.mk (below_drew1 HB.out)
        clear HO0_1
        clear BK46001
        clear BK46002
        clear HB
        have HO0_1 := n0_
        have BK46001 := n1_
        have BK46002 := n2_
        have HB := n3_
        clear n0_ n1_ n2_ n3_
        have p46003 : 0 ≤ (a1 : Int) := of_decide_eq_true (by first | (with_reducible assumption) | assumption)
        have q46003 : a1 < (l0_2.length : Int) := of_decide_eq_true (by first | (with_reducible assumption) | assumption)
        obtain ⟨ad46003, e46003, hx46003_0⟩ := Kd.at_int HR0_2.out a1 p46003 q46003
        have hw46003_0 := hx46003_0
        cases e46003
        replace hx46003_0 := (HB.out.cell (World.block_lt_of_cell? w _ hx46003_0)).trans hx46003_0
        replace p46003 := eq_true p46003
        replace q46003 := eq_true q46003
        refine start_ (n := 17) (S := fun w' => w'.cell? ⟨gb46001, 0, none⟩ = some (.int .i64 a0_0) ∧ w'.cell? ⟨gb46001, 1, none⟩ = some (.slice A0_1 l0_1.length c0_1) ∧ w'.cell? ⟨gb46001, 2, none⟩ = some (.slice (some ad46003) l0_2.length c0_2) ∧ w'.cell? (ad46003.add (a1).toNat) = some (.int .i64 (rd l0_2 a1))) (ds := []) #[false, false, false, false, false, false, false, false, false, false, false, false, false, false, false, false, false] (by kernel_rfl) rfl rfl ⟨(blk_cell BK46001.out 0).trans rfl, (blk_cell BK46001.out 1).trans rfl, (blk_cell BK46001.out 2).trans rfl, ((HB.out.cell (World.block_lt_of_cell? w _ hw46003_0)).trans hw46003_0)⟩ (fun hHeld => ?_); refine with_tabW customsref33_Confirm.tab3 customsref33_Confirm.bits3 (fun HT_ HW_ => ?_)
        generalize w19.drew = w22 at HO0_1 BK46001 BK46002 HB hx46003_0 hHeld ⊢
        refine pure_ (i := 0) (N := some 16) (v := ?_) (a' := ?_) #[true, false, false, false, false, false, false, false, false, false, false, false, false, false, false, false, false] rfl rfl (any_of HT_.out (by kernel_rfl)) (fun _ _ _ h => h) (Or.inl ⟨by rfl, ?_⟩) ?_ ?_
        rotate_left
        · intro w'
          go_simp
          with_reducible rfl
        rotate_left
        · simp only [Act.put, List.setIfInBounds_toArray, List.set_cons_zero, List.set_cons_succ, i64_w, i32_w]
          rfl
        refine pure_ (i := 2) (N := some 18) (v := ?_) (a' := ?_) #[true, false, true, false, false, false, false, false, false, false, false, false, false, false, false, false, false] rfl rfl (any_of HT_.out (by kernel_rfl)) (fun _ _ _ h => h) (Or.inl ⟨by rfl, ?_⟩) ?_ ?_
        rotate_left
        · intro w'
          go_simp
          with_reducible rfl
        rotate_left
        · simp only [Act.put, List.setIfInBounds_toArray, List.set_cons_zero, List.set_cons_succ, i64_w, i32_w]
          rfl
        refine pure_ (i := 4) (N := some 20) (v := ?_) (a' := ?_) #[true, false, true, false, true, false, false, false, false, false, false, false, false, false, false, false, false] rfl rfl (any_of HT_.out (by kernel_rfl)) (fun _ _ _ h => h) (Or.inl ⟨by rfl, ?_⟩) ?_ ?_
        rotate_left
        · intro w'
          go_simp
          with_reducible rfl
        rotate_left
        · simp only [Act.put, List.setIfInBounds_toArray, List.set_cons_zero, List.set_cons_succ, i64_w, i32_w]
          rfl
        refine pure_ (i := 8) (N := some 24) (v := ?_) (a' := ?_) #[true, false, true, false, true, false, false, false, true, false, false, false, false, false, false, false, false] rfl rfl (any_of HT_.out (by kernel_rfl)) (fun _ _ _ h => h) (Or.inl ⟨by rfl, ?_⟩) ?_ ?_
        rotate_left
        · intro w'
          go_simp
          with_reducible rfl
        rotate_left
        · simp only [Act.put, List.setIfInBounds_toArray, List.set_cons_zero, List.set_cons_succ, i64_w, i32_w]
          rfl
        refine pure_ (i := 10) (N := some 26) (v := ?_) (a' := ?_) #[true, false, true, false, true, false, false, false, true, false, true, false, false, false, false, false, false] rfl rfl (any_of HT_.out (by kernel_rfl)) (fun _ _ _ h => h) (Or.inl ⟨by rfl, ?_⟩) ?_ ?_
        rotate_left
        · intro w'
          go_simp
          with_reducible rfl
        rotate_left
        · simp only [Act.put, List.setIfInBounds_toArray, List.set_cons_zero, List.set_cons_succ, i64_w, i32_w]
          rfl
        refine pure_ (i := 12) (N := some 28) (v := ?_) (a' := ?_) #[true, false, true, false, true, false, false, false, true, false, true, false, true, false, false, false, false] rfl rfl (any_of HT_.out (by kernel_rfl)) (fun _ _ _ h => h) (Or.inl ⟨by rfl, ?_⟩) ?_ ?_
        rotate_left
        · intro w'
          go_simp
          with_reducible rfl
        rotate_left
        · simp only [Act.put, List.setIfInBounds_toArray, List.set_cons_zero, List.set_cons_succ, i64_w, i32_w]
          rfl
        refine take_ (i := 1) (N := some 17) (v := ?_) (a' := ?_) #[true, true, true, false, true, false, false, false, true, false, true, false, true, false, false, false, false] rfl rfl (take_ofW HT_.out HW_.out (by kernel_rfl)) (fun _ _ _ h => h) (Or.inl ⟨by rfl, ?_⟩) hHeld ?_ ?_
        rotate_left
        · rintro w' ⟨s0, s1, s2, s3⟩
          go_simp
          with_reducible rfl
        rotate_left
        · simp only [Act.put, List.setIfInBounds_toArray, List.set_cons_zero, List.set_cons_succ, i64_w, i32_w]
          rfl
        refine take_ (i := 3) (N := some 19) (v := ?_) (a' := ?_) #[true, true, true, true, true, false, false, false, true, false, true, false, true, false, false, false, false] rfl rfl (take_ofW HT_.out HW_.out (by kernel_rfl)) (fun _ _ _ h => h) (Or.inl ⟨by rfl, ?_⟩) hHeld ?_ ?_
        rotate_left
        · rintro w' ⟨s0, s1, s2, s3⟩
          go_simp
          with_reducible rfl
        rotate_left
        · simp only [Act.put, List.setIfInBounds_toArray, List.set_cons_zero, List.set_cons_succ, i64_w, i32_w]
          rfl
        refine pure_ (i := 5) (N := some 21) (v := ?_) (a' := ?_) #[true, true, true, true, true, true, false, false, true, false, true, false, true, false, false, false, false] rfl rfl (any_of HT_.out (by kernel_rfl)) (fun _ _ _ h => h) (Or.inl ⟨by rfl, ?_⟩) ?_ ?_
        rotate_left
        · intro w'
          go_simp
          with_reducible rfl
        rotate_left
        · simp only [Act.put, List.setIfInBounds_toArray, List.set_cons_zero, List.set_cons_succ, i64_w, i32_w]
          rfl
        refine take_ (i := 6) (N := some 22) (v := ?_) (a' := ?_) #[true, true, true, true, true, true, true, false, true, false, true, false, true, false, false, false, false] rfl rfl (take_ofW HT_.out HW_.out (by kernel_rfl)) (fun _ _ _ h => h) (Or.inl ⟨by rfl, ?_⟩) hHeld ?_ ?_
        rotate_left
        · rintro w' ⟨s0, s1, s2, s3⟩
          go_simp
          with_reducible rfl
        rotate_left
        · simp only [Act.put, List.setIfInBounds_toArray, List.set_cons_zero, List.set_cons_succ, i64_w, i32_w]
          rfl
        refine pure_ (i := 7) (N := some 23) (v := ?_) (a' := ?_) #[true, true, true, true, true, true, true, true, true, false, true, false, true, false, false, false, false] rfl rfl (any_of HT_.out (by kernel_rfl)) (fun _ _ _ h => h) (Or.inl ⟨by rfl, ?_⟩) ?_ ?_
        rotate_left
        · intro w'
          go_simp
          with_reducible rfl
        rotate_left
        · simp only [Act.put, List.setIfInBounds_toArray, List.set_cons_zero, List.set_cons_succ, i64_w, i32_w]
          rfl
        refine take_ (i := 9) (N := some 25) (v := ?_) (a' := ?_) #[true, true, true, true, true, true, true, true, true, true, true, false, true, false, false, false, false] rfl rfl (take_ofW HT_.out HW_.out (by kernel_rfl)) (fun _ _ _ h => h) (Or.inl ⟨by rfl, ?_⟩) hHeld ?_ ?_
        rotate_left
        · rintro w' ⟨s0, s1, s2, s3⟩
          go_simp
          with_reducible rfl
        rotate_left
        · simp only [Act.put, List.setIfInBounds_toArray, List.set_cons_zero, List.set_cons_succ, i64_w, i32_w]
          rfl
        refine take_ (i := 11) (N := some 27) (v := ?_) (a' := ?_) #[true, true, true, true, true, true, true, true, true, true, true, true, true, false, false, false, false] rfl rfl (take_ofW HT_.out HW_.out (by kernel_rfl)) (fun _ _ _ h => h) (Or.inl ⟨by rfl, ?_⟩) hHeld ?_ ?_
        rotate_left
        · rintro w' ⟨s0, s1, s2, s3⟩
          go_simp
          with_reducible rfl
        rotate_left
        · simp only [Act.put, List.setIfInBounds_toArray, List.set_cons_zero, List.set_cons_succ, i64_w, i32_w]
          rfl
        refine one_ (i := 13) (N := some 29) #[true, true, true, true, true, true, true, true, true, true, true, true, true, true, false, false, false] rfl rfl (one_of HT_.out (by kernel_rfl)) (by decide) (fun K hK => ?_)
        refine goes_ Try.func74 (by kernel_rfl) rfl #[.slice (some ad46003) l0_2.length c0_2, .int .i64 a1] (by rfl) rfl rfl (by (try simp only [List.map_toArray, List.map_cons, List.map_nil]); first | done | rfl | (simp only [List.length_drop, List.length_take]; rfl)) ?_
        with_reducible refine (customsref33_out.calls _ _ l0_2 a1 t46004 _ ?side1 ?side2 A17.out).mono ?_
        (case side1 => repeat (first | exact (Kd.C_below HR0_2.out HB.out) | (with_reducible refine Kd.C_alloc ?_ _) | (with_reducible refine Kd.C_drewN ?_ _) | (with_reducible refine Kd.C_drew ?_)))
        (case side2 => exact HC0_2.out)
        rintro e w23 ⟨v46005, rfl, ho0, hb⟩
        refine ⟨_, rfl, ?_⟩
        have n1_ := Aside0.mk (Kd.R_lower (Kd.R_newM (M := fun k_ => (w.heap.size ≤ k_)) ho0 (below_size (below_extB HB.out)) (fun k_ h_ => h_)) (below_size (below_extB HB.out)))
        have HO46006 := n1_
        replace HO0_1 := apV HO0_1 hb (Kd.R_base ho0)
        replace BK46001 := mvB BK46001 hb
        replace BK46002 := mvB BK46002 hb
        replace HB := mvH HB hb
        clear n1_
        (try clear hb)
        (try clear hb2)
        (try clear hk)
        (try clear hi)
        (try clear ho0)
        obtain ⟨Ao24, co24, eo24⟩ := Kd.R_slice HO46006.out
        (first | subst eo24 | (injection eo24 with f1_ f2_ f3_; have f4_ := f1_.symm; have f5_ := f3_.symm; clear f1_ f2_ f3_; subst f4_; subst f5_))
        refine hK.out _ _ ⟨(blk_cell BK46001.out 0).trans rfl, (blk_cell BK46001.out 1).trans rfl, (blk_cell BK46001.out 2).trans rfl, ((HB.out.cell (World.block_lt_of_cell? w _ hw46003_0)).trans hw46003_0)⟩ (fun hHeld => ?_)
        clear hK K
        refine norm_ (a' := ?_) ?_ ?_
        rotate_left
        · show Act.put _ (some 29) _ = _
          simp only [Act.put, List.setIfInBounds_toArray, List.set_cons_zero, List.set_cons_succ, i64_w, i32_w]
          rfl
        refine pure_ (i := 14) (N := some 30) (v := ?_) (a' := ?_) #[true, true, true, true, true, true, true, true, true, true, true, true, true, true, true, false, false] rfl rfl (any_of HT_.out (by kernel_rfl)) (fun _ _ _ h => h) (Or.inl ⟨by rfl, ?_⟩) ?_ ?_
        rotate_left
        · intro w'
          go_simp
          with_reducible rfl
        rotate_left
        · simp only [Act.put, List.setIfInBounds_toArray, List.set_cons_zero, List.set_cons_succ, i64_w, i32_w]
          rfl
        refine one_ (i := 15) (N := none) #[true, true, true, true, true, true, true, true, true, true, true, true, true, true, true, true, false] rfl rfl (one_of HT_.out (by kernel_rfl)) (by decide) (fun K hK => ?_)
        have hs25 : w23.cell? ⟨gb46002, 0, none⟩ = some (.int .i64 0) := (blk_cell BK46002.out 0).trans rfl
        have hfs25 := blk_frozen BK46002.out 0
        have hns25_0 := NB46001_46002.out
        have hms25_0 := NB46002_46001.out
        have hs26 : w23.cell? ⟨gb46002, 1, none⟩ = some (.slice none 0 0) := (blk_cell BK46002.out 1).trans rfl
        have hfs26 := blk_frozen BK46002.out 1
        have hns26_0 := NB46001_46002.out
        have hms26_0 := NB46002_46001.out
        have hs27 : w23.cell? ⟨gb46002, 2, none⟩ = some (.slice none 0 0) := (blk_cell BK46002.out 2).trans rfl
        have hfs27 := blk_frozen BK46002.out 2
        have hns27_0 := NB46001_46002.out
        have hms27_0 := NB46002_46001.out
        refine skip_ (w1 := ?_) (by rfl) rfl ?_ ?_
        rotate_left
        · go_simp
          rfl
        refine hK.out _ _ ⟨((cell_far (p := ⟨gb46002, _, none⟩) NB46001_46002.out _).trans (((cell_far (p := ⟨gb46002, _, none⟩) NB46001_46002.out _).trans (((cell_far (p := ⟨gb46002, _, none⟩) NB46001_46002.out _).trans (hHeld.1)))))), ((cell_far (p := ⟨gb46002, _, none⟩) NB46001_46002.out _).trans (((cell_far (p := ⟨gb46002, _, none⟩) NB46001_46002.out _).trans (((cell_far (p := ⟨gb46002, _, none⟩) NB46001_46002.out _).trans (hHeld.2.1)))))), ((cell_far (p := ⟨gb46002, _, none⟩) NB46001_46002.out _).trans (((cell_far (p := ⟨gb46002, _, none⟩) NB46001_46002.out _).trans (((cell_far (p := ⟨gb46002, _, none⟩) NB46001_46002.out _).trans (hHeld.2.2.1)))))), ((cell_far (p := ⟨gb46002, _, none⟩) (by first | exact Nat.ne_of_lt (Nat.lt_of_lt_of_le (by have := World.block_lt_of_cell? _ _ hw46003_0; first | rwa [add_block] at this | exact this) GW46002.out) | (rw [add_block]; exact Nat.ne_of_lt (Nat.lt_of_lt_of_le (by have := World.block_lt_of_cell? _ _ hw46003_0; first | rwa [add_block] at this | exact this) GW46002.out)) | (show (Addr.add _ _).block ≠ _; rw [add_block]; exact Nat.ne_of_lt (Nat.lt_of_lt_of_le (by have := World.block_lt_of_cell? _ _ hw46003_0; first | rwa [add_block] at this | exact this) GW46002.out)) | (dsimp only; exact Nat.ne_of_lt (Nat.lt_of_lt_of_le (by have := World.block_lt_of_cell? _ _ hw46003_0; first | rwa [add_block] at this | exact this) GW46002.out))) _).trans (((cell_far (p := ⟨gb46002, _, none⟩) (by first | exact Nat.ne_of_lt (Nat.lt_of_lt_of_le (by have := World.block_lt_of_cell? _ _ hw46003_0; first | rwa [add_block] at this | exact this) GW46002.out) | (rw [add_block]; exact Nat.ne_of_lt (Nat.lt_of_lt_of_le (by have := World.block_lt_of_cell? _ _ hw46003_0; first | rwa [add_block] at this | exact this) GW46002.out)) | (show (Addr.add _ _).block ≠ _; rw [add_block]; exact Nat.ne_of_lt (Nat.lt_of_lt_of_le (by have := World.block_lt_of_cell? _ _ hw46003_0; first | rwa [add_block] at this | exact this) GW46002.out)) | (dsimp only; exact Nat.ne_of_lt (Nat.lt_of_lt_of_le (by have := World.block_lt_of_cell? _ _ hw46003_0; first | rwa [add_block] at this | exact this) GW46002.out))) _).trans (((cell_far (p := ⟨gb46002, _, none⟩) (by first | exact Nat.ne_of_lt (Nat.lt_of_lt_of_le (by have := World.block_lt_of_cell? _ _ hw46003_0; first | rwa [add_block] at this | exact this) GW46002.out) | (rw [add_block]; exact Nat.ne_of_lt (Nat.lt_of_lt_of_le (by have := World.block_lt_of_cell? _ _ hw46003_0; first | rwa [add_block] at this | exact this) GW46002.out)) | (show (Addr.add _ _).block ≠ _; rw [add_block]; exact Nat.ne_of_lt (Nat.lt_of_lt_of_le (by have := World.block_lt_of_cell? _ _ hw46003_0; first | rwa [add_block] at this | exact this) GW46002.out)) | (dsimp only; exact Nat.ne_of_lt (Nat.lt_of_lt_of_le (by have := World.block_lt_of_cell? _ _ hw46003_0; first | rwa [add_block] at this | exact this) GW46002.out))) _).trans (hHeld.2.2.2))))))⟩ (fun hHeld => ?_)
        clear hK K
        refine pure_ (i := 16) (N := some 5) (v := ?_) (a' := ?_) #[true, true, true, true, true, true, true, true, true, true, true, true, true, true, true, true, true] rfl rfl (any_of HT_.out (by kernel_rfl)) (fun _ _ _ h => h) (Or.inl ⟨by rfl, ?_⟩) ?_ ?_
        rotate_left
        · intro w'
          go_simp
          with_reducible rfl
        rotate_left
        · simp only [Act.put, List.setIfInBounds_toArray, List.set_cons_zero, List.set_cons_succ, i64_w, i32_w]
          rfl
        refine done_ (done_of HT_.out (by kernel_rfl)) ?_
        try go_wp2
        refine bodyPost_ret (results_ct rfl _ _ gb46002 44 #[.int .i64 ji16, .slice A0_1 l0_1.length c0_1, .slice Ao24 t46004.length co24] (0, 0) _ rfl (by (with_reducible repeat (first | refine blk_drewN ?_ _ | refine blk_drew ?_ | refine blk_alloc ?_ _)); refine blk_put (cs := #[.int .i64 ji16, .slice A0_1 l0_1.length c0_1, .slice none 0 0]) ?_ 2 _ rfl; (with_reducible repeat (first | refine blk_drewN ?_ _ | refine blk_drew ?_ | refine blk_alloc ?_ _)); refine blk_put (cs := #[.int .i64 ji16, .slice none 0 0, .slice none 0 0]) ?_ 1 _ rfl; (with_reducible repeat (first | refine blk_drewN ?_ _ | refine blk_drew ?_ | refine blk_alloc ?_ _)); refine blk_put (cs := #[.int .i64 0, .slice none 0 0, .slice none 0 0]) ?_ 0 _ rfl; exact blk_ext BK46002.out) Try.underlying44 rfl (by kernel_rfl)) rfl ?_
        exact ⟨_, _, by first | rfl | (simp [errW_none, errW_some] <;> rfl) | (simp only [← hji16]; first | rfl | (simp [errW_none, errW_some] <;> rfl)) | (simp [*, errW_none, errW_some] <;> rfl), Kd.V_ext (Kd.V_mono (Kd.V_far (p := ⟨gb46002, 2, none⟩) (Kd.V_far (p := ⟨gb46002, 1, none⟩) (Kd.V_far (p := ⟨gb46002, 0, none⟩) (Kd.V_mono HO0_1.out (fun k_ hk => (⟨hk, hk.1.2⟩ : _ ∧ k_ ≠ gb46002))) (fun _ hk => hk.2) (.int .i64 ji16)) (fun _ hk => hk.2) (.slice A0_1 l0_1.length c0_1)) (fun _ hk => hk.2) (.slice Ao24 t46004.length co24)) (fun _ hk => ⟨hk.1.1.1.1, hk.1.2⟩)), Kd.R_ext (Kd.R_mono (Kd.R_far (p := ⟨gb46002, 2, none⟩) (Kd.R_far (p := ⟨gb46002, 1, none⟩) (Kd.R_far (p := ⟨gb46002, 0, none⟩) (Kd.R_types HO46006.out BK46002.out (by decide)) (fun _ hk => hk.2) (.int .i64 ji16)) (fun _ hk => hk.2) (.slice A0_1 l0_1.length c0_1)) (fun _ hk => hk.2) (.slice Ao24 t46004.length co24)) (fun _ hk => hk.1.1)), below_extB HB.out⟩
      · rw [if_neg c14] at H
        exact absurd H (by simp)

end Go.Proofs.Ytfljnggpnndmkaa.Z
