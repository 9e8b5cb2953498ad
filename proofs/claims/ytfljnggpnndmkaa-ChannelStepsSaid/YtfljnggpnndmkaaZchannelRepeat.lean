/- Written by a program of this session: each Go function as a plain Lean function, and that the machine's call does what it says. Conditions: none but those each theorem states. -/
import Derived.Test.YtfljnggpnndmkaaZ0
import Derived.Test.YtfljnggpnndmkaaZchannelcopied
import Derived.Test.YtfljnggpnndmkaaZchannelhas
namespace Go.Proofs.Ytfljnggpnndmkaa.Z
open Go.RowKit Go.Proofs.YtfljnggpnndmkaaW.PrintWords Go.Proofs.YtfljnggpnndmkaaW.PrintLast Go.Proofs.YtfljnggpnndmkaaW.PrintMore
attribute [local go_sem] max2_int min2_int max_two min_two max_three min_three max_four min_four   -- for this text's walks alone
set_option linter.unusedVariables false
set_option linter.unusedSimpArgs false

/-! ### channel_Repeat: function 43 -/
def channel_Repeat.f (a0_0 : Int) (l0_1 : List Int) (l0_2 : List Int) (a1 : Int) : Option (Int × List Int × List Int × Int) := (channel_has.f l0_1 a1).bind fun t43003 => (if t43003 = true then (if (l0_1.length : Int) ≥ 1000 then (some (0, ([] : List Int), ([] : List Int), 8)) else ((channel_copied.f a0_0 l0_1 l0_2).bind fun bt43004 => (if 0 ≤ a1 then (if a1 < (bt43004.2.1.length : Int) then (if bt43004.2.1.length < 17592186044416 then (some (bt43004.1, (bt43004.2.1 ++ [rd bt43004.2.1 a1]), bt43004.2.2, 0)) else (none)) else (none)) else (none)))) else (some (0, ([] : List Int), ([] : List Int), 2)))
def channel_Repeat.T6 : Bool × List (List Nat × List Nat) := (true, [([], []), ([0], [0]), ([], []), ([2], [2]), ([], []), ([3, 4], [3, 4]), ([5], [5]), ([6], [6]), ([1, 7], [1, 7]), ([0, 1, 2, 3, 4, 5, 6, 7, 8], []), ([9, 8, 8, 0, 1, 2, 3, 4, 5, 6, 7, 8], [8, 9])])
def channel_Repeat.B6 : List Nat := [0, 1, 0, 4, 0, 28, 60, 124, 255, 511, 1023]
theorem channel_Repeat.tab6 : rtab .any (opsOf Try.f43 6) = channel_Repeat.T6 := by kernel_rfl
theorem channel_Repeat.bits6 : waitsOk channel_Repeat.T6.2 channel_Repeat.B6 = true := by kernel_rfl
set_option maxHeartbeats 8000000 in
set_option maxRecDepth 100000 in
theorem channel_Repeat.calls (a0_0 : Int) (A0_1 : Option Addr) (c0_1 : Nat) (l0_1 : List Int) (A0_2 : Option Addr) (c0_2 : Nat) (l0_2 : List Int) (a1 : Int) (r1 : Int) (r2 : List Int) (r3 : List Int) (r4 : Int) (w : World) (hr0_1 : Kd.C (Kd.int .i64) w A0_1 l0_1.length l0_1) (hc0_1 : l0_1.length ≤ c0_1) (hr0_2 : Kd.C (Kd.int .i64) w A0_2 l0_2.length l0_2) (hc0_2 : l0_2.length ≤ c0_2) (h : channel_Repeat.f a0_0 l0_1 l0_2 a1 = some (r1, r2, r3, r4)) :
    Calls Try.prog 43 #[.agg #[.int .i64 a0_0, .slice A0_1 l0_1.length c0_1, .slice A0_2 l0_2.length c0_2], .int .i64 a1] w fun e w' => ∃ v1_ v2_ : Value, e = .returned (.tuple #[.agg #[.int .i64 r1, v1_, v2_], .int .i64 r4]) ∧ Kd.R (Kd.int .i64) 3 w' w.heap.size (fun k_ => some k_ ≠ (v2_ : Value).ownBlock) v1_ r2 ∧ Kd.R (Kd.int .i64) 3 w' w.heap.size (fun k_ => some k_ ≠ (v1_ : Value).ownBlock) v2_ r3 ∧ Below w.heap.size w w' := by
  have hu44 := Try.underlying44
  have HR0_1 := Aside0.mk hr0_1
  have HC0_1 := Aside0.mk hc0_1
  clear hr0_1 hc0_1
  have HR0_2 := Aside0.mk hr0_2
  have HC0_2 := Aside0.mk hc0_2
  clear hr0_2 hc0_2
  have HB := Aside0.mk (Below.refl w.heap.size w)
  have H : ((channel_has.f l0_1 a1).bind fun t43003 => (if t43003 = true then (if (l0_1.length : Int) ≥ 1000 then (some (0, ([] : List Int), ([] : List Int), 8)) else ((channel_copied.f a0_0 l0_1 l0_2).bind fun bt43004 => (if 0 ≤ a1 then (if a1 < (bt43004.2.1.length : Int) then (if bt43004.2.1.length < 17592186044416 then (some (bt43004.1, (bt43004.2.1 ++ [rd bt43004.2.1 a1]), bt43004.2.2, 0)) else (none)) else (none)) else (none)))) else (some (0, ([] : List Int), ([] : List Int), 2)))) = some (r1, r2, r3, r4) := h
  clear h
  replace H := Option.bind_eq_some_iff.mp H
  obtain ⟨t43003, A30, H⟩ := H
  replace H : (if t43003 = true then (if (l0_1.length : Int) ≥ 1000 then (some (0, ([] : List Int), ([] : List Int), 8)) else ((channel_copied.f a0_0 l0_1 l0_2).bind fun bt43004 => (if 0 ≤ a1 then (if a1 < (bt43004.2.1.length : Int) then (if bt43004.2.1.length < 17592186044416 then (some (bt43004.1, (bt43004.2.1 ++ [rd bt43004.2.1 a1]), bt43004.2.2, 0)) else (none)) else (none)) else (none)))) else (some (0, ([] : List Int), ([] : List Int), 2))) = some (r1, r2, r3, r4) := H
  have A3 := Aside0.mk A30
  clear A30
  by_cases c4 : t43003 = true
  · subst c4
    have H1 : (if (l0_1.length : Int) ≥ 1000 then (some (0, ([] : List Int), ([] : List Int), 8)) else ((channel_copied.f a0_0 l0_1 l0_2).bind fun bt43004 => (if 0 ≤ a1 then (if a1 < (bt43004.2.1.length : Int) then (if bt43004.2.1.length < 17592186044416 then (some (bt43004.1, (bt43004.2.1 ++ [rd bt43004.2.1 a1]), bt43004.2.2, 0)) else (none)) else (none)) else (none)))) = some (r1, r2, r3, r4) := by rw [if_pos rfl] at H; exact H
    clear H
    have H := H1
    clear H1
    by_cases c5 : (l0_1.length : Int) ≥ 1000
    · rw [if_pos c5] at H
      have c5b0 : decide (1000 ≤ (l0_1.length : Int)) = true := decide_eq_true c5
      have c5b1 : decide (1000 ≤ l0_1.length) = true := decide_eq_true (by omega)
      clear c5
      simp only [Option.some.injEq, Prod.mk.injEq] at H
      obtain ⟨rfl, rfl, rfl, rfl⟩ := H
      go_enter Try.func43, Try.ntmps43
      go_wp2_with (first | ((with_reducible refine gate_dst (N := 2) rfl ?_); refine box_event ?hg (N := 2) ?hd (cs := #[.int .i64 a0_0, .slice A0_1 l0_1.length c0_1, .slice A0_2 l0_2.length c0_2]) (t := 44) ?hr ?_; (case hd => rfl); (case hg => rfl); (case hr => first | (go_simp; done) | (go_simp; rfl)); intro gb43001 hg w6 hbox hb; have n1_ := Aside0.mk (hbox); have n2_ := Aside0.mk ((by rw [hg]; exact (below_size (below_ext HB.out)) : w.heap.size ≤ gb43001)); have n3_ := Aside0.mk ((by rw [hg]; exact (below_size (below_ext HB.out)) : w.heap.size ≤ gb43001)); have BK43001 := n1_; have GW43001 := n2_; have GE43001 := n3_; have GI43001 := GE_.mk GE43001.out; replace HB := mvH HB hb; clear n1_ n2_ n3_; clear hb hbox hg) | ((with_reducible refine gate_dst (N := 4) rfl ?_); refine box_event ?hg (N := 4) ?hd (cs := #[.int .i64 0, .slice none 0 0, .slice none 0 0]) (t := 44) ?hr ?_; (case hd => rfl); (case hg => rfl); (case hr => first | (go_simp; done) | (go_simp; rfl)); intro gb43002 hg w7 hbox hb; have n2_ := Aside0.mk (hbox); have n3_ := Aside0.mk ((by rw [hg]; exact (below_size (below_extB HB.out)) : w.heap.size ≤ gb43002)); have n4_ := Aside0.mk ((by rw [hg]; exact (below_size (below_extB HB.out)) : w.heap.size ≤ gb43002)); have n5_ := Aside0.mk ((by rw [hg]; exact Nat.ne_of_lt (blk_lt (blk_ext BK43001.out)) : gb43001 ≠ gb43002)); have n6_ := Aside0.mk ((by rw [hg]; exact Nat.ne_of_gt (blk_lt (blk_ext BK43001.out)) : gb43002 ≠ gb43001)); have BK43002 := n2_; have GW43002 := n3_; have GE43002 := n4_; have GI43002 := GE_.mk GE43002.out; have NB43001_43002 := n5_; have NI43001_43002 := NE_.mk NB43001_43002.out; have NB43002_43001 := n6_; have NI43002_43001 := NE_.mk NB43002_43001.out; replace BK43001 := mvB BK43001 hb; replace HB := mvH HB hb; clear n2_ n3_ n4_ n5_ n6_; clear hb hbox hg; have hnb8 := NB43001_43002.out; have hnc8 := NB43002_43001.out; have hcz9_0 : w7.cell? ⟨gb43001, 0, none⟩ = some (.int .i64 a0_0) := (blk_cell BK43001.out 0).trans rfl; have hcz9_1 : w7.cell? ⟨gb43001, 1, none⟩ = some (.slice A0_1 l0_1.length c0_1) := (blk_cell BK43001.out 1).trans rfl; have hcz9_2 : w7.cell? ⟨gb43001, 2, none⟩ = some (.slice A0_2 l0_2.length c0_2) := (blk_cell BK43001.out 2).trans rfl; have hfz9_0 := blk_frozen BK43001.out 0; have hfz9_1 := blk_frozen BK43001.out 1; have hfz9_2 := blk_frozen BK43001.out 2) | ((with_reducible refine gate_callee (f := 71) rfl ?_); refine goesL_ (some 10) rfl rfl Try.func71 (by kernel_rfl) rfl #[.slice A0_1 l0_1.length c0_1, .int .i64 a1] rfl (by (try simp only [List.map_toArray, List.map_cons, List.map_nil]); first | done | rfl | (simp only [List.length_drop, List.length_take]; rfl)) ?_; (with_reducible refine (channel_has.calls _ _ l0_1 a1 true _ ?side1 ?side2 A3.out).mono ?_); (case side1 => repeat (first | exact (Kd.C_below HR0_1.out HB.out) | (with_reducible refine Kd.C_alloc ?_ _) | (with_reducible refine Kd.C_drewN ?_ _) | (with_reducible refine Kd.C_drew ?_))); (case side2 => exact HC0_1.out); rintro e w' ⟨rfl, ⟨nd, rfl⟩⟩; refine ⟨_, rfl, ?_⟩; (try (rw [drewN_self w7]; generalize hq_ : World.drewN w7 _ = w7; have n0_ : Aside0 (w7.heap[gb43001]? = some (.cells #[.int .i64 a0_0, .slice A0_1 l0_1.length c0_1, .slice A0_2 l0_2.length c0_2] 44 (0, 0))) := ⟨by rw [← hq_]; exact (blk_ext BK43001.out)⟩; have n1_ : Aside0 (w7.heap[gb43002]? = some (.cells #[.int .i64 0, .slice none 0 0, .slice none 0 0] 44 (0, 0))) := ⟨by rw [← hq_]; exact (blk_ext BK43002.out)⟩; have n2_ : Aside0 (Below w.heap.size w w7) := ⟨by rw [← hq_]; exact (below_extB HB.out)⟩; clear BK43001 BK43002 HB hq_; have BK43001 := n0_; have BK43002 := n1_; have HB := n2_; clear n0_ n1_ n2_)); (try have hcz9_0 : w7.cell? ⟨gb43001, 0, none⟩ = some (.int .i64 a0_0) := (blk_cell BK43001.out 0).trans rfl); (try have hcz9_1 : w7.cell? ⟨gb43001, 1, none⟩ = some (.slice A0_1 l0_1.length c0_1) := (blk_cell BK43001.out 1).trans rfl); (try have hcz9_2 : w7.cell? ⟨gb43001, 2, none⟩ = some (.slice A0_2 l0_2.length c0_2) := (blk_cell BK43001.out 2).trans rfl); have hcz10_0 : w7.cell? ⟨gb43002, 0, none⟩ = some (.int .i64 0) := (blk_cell BK43002.out 0).trans rfl; have hcz10_1 : w7.cell? ⟨gb43002, 1, none⟩ = some (.slice none 0 0) := (blk_cell BK43002.out 1).trans rfl; have hcz10_2 : w7.cell? ⟨gb43002, 2, none⟩ = some (.slice none 0 0) := (blk_cell BK43002.out 2).trans rfl; have hfz10_0 := blk_frozen BK43002.out 0; have hfz10_1 := blk_frozen BK43002.out 1; have hfz10_2 := blk_frozen BK43002.out 2))
      refine bodyPost_ret (results_ct rfl _ _ gb43002 44 #[.int .i64 0, .slice none 0 0, .slice none 0 0] (0, 0) _ rfl (by (with_reducible repeat (first | refine blk_drewN ?_ _ | refine blk_drew ?_ | refine blk_alloc ?_ _)); refine blk_put (cs := #[.int .i64 0, .slice none 0 0, .slice none 0 0]) ?_ 2 _ rfl; (with_reducible repeat (first | refine blk_drewN ?_ _ | refine blk_drew ?_ | refine blk_alloc ?_ _)); refine blk_put (cs := #[.int .i64 0, .slice none 0 0, .slice none 0 0]) ?_ 1 _ rfl; (with_reducible repeat (first | refine blk_drewN ?_ _ | refine blk_drew ?_ | refine blk_alloc ?_ _)); refine blk_put (cs := #[.int .i64 0, .slice none 0 0, .slice none 0 0]) ?_ 0 _ rfl; exact blk_ext BK43002.out) Try.underlying44 rfl (by kernel_rfl)) rfl ?_
      exact ⟨_, _, by first | rfl | (simp [errW_none, errW_some] <;> rfl) | (simp [*, errW_none, errW_some] <;> rfl), by first | exact Kd.R_nil _ _ _ _ _ | exact Kd.N_nil _ _ _ _ _ | exact Kd.V_nil _ _ _ _ _ | exact Kd.Q_nil _ _ _ _ _ | exact Kd.S_nil _ _ _ _ _, by first | exact Kd.R_nil _ _ _ _ _ | exact Kd.N_nil _ _ _ _ _ | exact Kd.V_nil _ _ _ _ _ | exact Kd.Q_nil _ _ _ _ _ | exact Kd.S_nil _ _ _ _ _, below_extB HB.out⟩
    · rw [if_neg c5] at H
      have c5b0 : decide (1000 ≤ (l0_1.length : Int)) = false := decide_eq_false c5
      have c5b1 : decide (1000 ≤ l0_1.length) = false := decide_eq_false (by omega)
      clear c5
      replace H := Option.bind_eq_some_iff.mp H
      obtain ⟨⟨t43004, t43005, t43008⟩, A110, H⟩ := H
      replace H : (if 0 ≤ a1 then (if a1 < (t43005.length : Int) then (if t43005.length < 17592186044416 then (some (t43004, (t43005 ++ [rd t43005 a1]), t43008, 0)) else (none)) else (none)) else (none)) = some (r1, r2, r3, r4) := H
      have A11 := Aside0.mk A110
      clear A110
      replace H := if_some H; obtain ⟨c12, H⟩ := H
      have c12b0 : decide (0 ≤ a1) = true := decide_eq_true c12
      clear c12
      replace H := if_some H; obtain ⟨c13, H⟩ := H
      have c13b0 : decide (a1 < (t43005.length : Int)) = true := decide_eq_true c13
      clear c13
      replace H := if_some H; obtain ⟨c14, H⟩ := H
      have LMc14 := Aside0.mk c14
      clear c14
      obtain ⟨y43012, hy43012⟩ : ∃ y_ : List Int, y_ = (t43005 ++ [rd t43005 a1]) := ⟨_, rfl⟩
      replace H : (some (t43004, y43012, t43008, 0)) = some (r1, r2, r3, r4) := by first | (rw [hy43012]; with_reducible exact H) | (have H2_ := (Option.bind_some _ _).symm.trans H; rw [hy43012]; with_reducible exact H2_) | (have H2_ := (Option.bind_some _ _).symm.trans H; with_reducible exact H2_) | with_reducible exact H | (rw [hy43012]; exact H) | exact H
      have Ny43012 := Aside0.mk hy43012
      clear hy43012
      simp only [Option.some.injEq, Prod.mk.injEq] at H
      obtain ⟨rfl, rfl, rfl, rfl⟩ := H
      go_enter Try.func43, Try.ntmps43
      try go_wp2_with (first | ((with_reducible refine gate_dst (N := 2) rfl ?_); refine box_event ?hg (N := 2) ?hd (cs := #[.int .i64 a0_0, .slice A0_1 l0_1.length c0_1, .slice A0_2 l0_2.length c0_2]) (t := 44) ?hr ?_; (case hd => rfl); (case hg => rfl); (case hr => first | (go_simp; done) | (go_simp; rfl)); intro gb43001 hg w15 hbox hb; have n1_ := Aside0.mk (hbox); have n2_ := Aside0.mk ((by rw [hg]; exact (below_size (below_ext HB.out)) : w.heap.size ≤ gb43001)); have n3_ := Aside0.mk ((by rw [hg]; exact (below_size (below_ext HB.out)) : w.heap.size ≤ gb43001)); have BK43001 := n1_; have GW43001 := n2_; have GE43001 := n3_; have GI43001 := GE_.mk GE43001.out; replace HB := mvH HB hb; clear n1_ n2_ n3_; clear hb hbox hg) | ((with_reducible refine gate_dst (N := 4) rfl ?_); refine box_event ?hg (N := 4) ?hd (cs := #[.int .i64 0, .slice none 0 0, .slice none 0 0]) (t := 44) ?hr ?_; (case hd => rfl); (case hg => rfl); (case hr => first | (go_simp; done) | (go_simp; rfl)); intro gb43002 hg w16 hbox hb; have n2_ := Aside0.mk (hbox); have n3_ := Aside0.mk ((by rw [hg]; exact (below_size (below_extB HB.out)) : w.heap.size ≤ gb43002)); have n4_ := Aside0.mk ((by rw [hg]; exact (below_size (below_extB HB.out)) : w.heap.size ≤ gb43002)); have n5_ := Aside0.mk ((by rw [hg]; exact Nat.ne_of_lt (blk_lt (blk_ext BK43001.out)) : gb43001 ≠ gb43002)); have n6_ := Aside0.mk ((by rw [hg]; exact Nat.ne_of_gt (blk_lt (blk_ext BK43001.out)) : gb43002 ≠ gb43001)); have BK43002 := n2_; have GW43002 := n3_; have GE43002 := n4_; have GI43002 := GE_.mk GE43002.out; have NB43001_43002 := n5_; have NI43001_43002 := NE_.mk NB43001_43002.out; have NB43002_43001 := n6_; have NI43002_43001 := NE_.mk NB43002_43001.out; replace BK43001 := mvB BK43001 hb; replace HB := mvH HB hb; clear n2_ n3_ n4_ n5_ n6_; clear hb hbox hg; have hnb17 := NB43001_43002.out; have hnc17 := NB43002_43001.out; have hcz18_0 : w16.cell? ⟨gb43001, 0, none⟩ = some (.int .i64 a0_0) := (blk_cell BK43001.out 0).trans rfl; have hcz18_1 : w16.cell? ⟨gb43001, 1, none⟩ = some (.slice A0_1 l0_1.length c0_1) := (blk_cell BK43001.out 1).trans rfl; have hcz18_2 : w16.cell? ⟨gb43001, 2, none⟩ = some (.slice A0_2 l0_2.length c0_2) := (blk_cell BK43001.out 2).trans rfl; have hfz18_0 := blk_frozen BK43001.out 0; have hfz18_1 := blk_frozen BK43001.out 1; have hfz18_2 := blk_frozen BK43001.out 2) | ((with_reducible refine gate_callee (f := 71) rfl ?_); refine goesL_ (some 10) rfl rfl Try.func71 (by kernel_rfl) rfl #[.slice A0_1 l0_1.length c0_1, .int .i64 a1] rfl (by (try simp only [List.map_toArray, List.map_cons, List.map_nil]); first | done | rfl | (simp only [List.length_drop, List.length_take]; rfl)) ?_; (with_reducible refine (channel_has.calls _ _ l0_1 a1 true _ ?side1 ?side2 A3.out).mono ?_); (case side1 => repeat (first | exact (Kd.C_below HR0_1.out HB.out) | (with_reducible refine Kd.C_alloc ?_ _) | (with_reducible refine Kd.C_drewN ?_ _) | (with_reducible refine Kd.C_drew ?_))); (case side2 => exact HC0_1.out); rintro e w' ⟨rfl, ⟨nd, rfl⟩⟩; refine ⟨_, rfl, ?_⟩; (try (rw [drewN_self w16]; generalize hq_ : World.drewN w16 _ = w16; have n0_ : Aside0 (w16.heap[gb43001]? = some (.cells #[.int .i64 a0_0, .slice A0_1 l0_1.length c0_1, .slice A0_2 l0_2.length c0_2] 44 (0, 0))) := ⟨by rw [← hq_]; exact (blk_ext BK43001.out)⟩; have n1_ : Aside0 (w16.heap[gb43002]? = some (.cells #[.int .i64 0, .slice none 0 0, .slice none 0 0] 44 (0, 0))) := ⟨by rw [← hq_]; exact (blk_ext BK43002.out)⟩; have n2_ : Aside0 (Below w.heap.size w w16) := ⟨by rw [← hq_]; exact (below_extB HB.out)⟩; clear BK43001 BK43002 HB hq_; have BK43001 := n0_; have BK43002 := n1_; have HB := n2_; clear n0_ n1_ n2_)); (try have hcz18_0 : w16.cell? ⟨gb43001, 0, none⟩ = some (.int .i64 a0_0) := (blk_cell BK43001.out 0).trans rfl); (try have hcz18_1 : w16.cell? ⟨gb43001, 1, none⟩ = some (.slice A0_1 l0_1.length c0_1) := (blk_cell BK43001.out 1).trans rfl); (try have hcz18_2 : w16.cell? ⟨gb43001, 2, none⟩ = some (.slice A0_2 l0_2.length c0_2) := (blk_cell BK43001.out 2).trans rfl)) | ((with_reducible refine gate_callee (f := 70) rfl ?_); refine goesL_ (some 20) rfl rfl Try.func70 (by kernel_rfl) rfl #[.agg #[.int .i64 a0_0, .slice A0_1 l0_1.length c0_1, .slice A0_2 l0_2.length c0_2]] rfl (by (try simp only [List.map_toArray, List.map_cons, List.map_nil]); first | done | rfl | (simp only [List.length_drop, List.length_take]; rfl)) ?_; (with_reducible refine (channel_copied.calls a0_0 _ _ l0_1 _ _ l0_2 t43004 t43005 t43008 _ ?side1 ?side2 ?side3 ?side4 A11.out).mono ?_); (case side1 => repeat (first | exact (Kd.C_below HR0_1.out HB.out) | (with_reducible refine Kd.C_alloc ?_ _) | (with_reducible refine Kd.C_drewN ?_ _) | (with_reducible refine Kd.C_drew ?_))); (case side2 => exact HC0_1.out); (case side3 => repeat (first | exact (Kd.C_below HR0_2.out HB.out) | (with_reducible refine Kd.C_alloc ?_ _) | (with_reducible refine Kd.C_drewN ?_ _) | (with_reducible refine Kd.C_drew ?_))); (case side4 => exact HC0_2.out); rintro e w19 ⟨v43006, v43009, rfl, ho0, ho1, hb⟩; refine ⟨_, rfl, ?_⟩; have n0_ := Aside0.mk (Kd.R_lower ho0 (below_size (below_extB HB.out))); have n1_ := Aside0.mk (Kd.R_lower ho1 (below_size (below_extB HB.out))); have HO43007 := n0_; have HO43010 := n1_; replace BK43001 := mvB BK43001 hb; replace BK43002 := mvB BK43002 hb; replace HB := mvH HB hb; clear n0_ n1_; (try clear hb); (try clear hb2); (try clear hk); (try clear hi); (try clear ho0); (try clear ho1); have hcz20_0 : w19.cell? ⟨gb43001, 0, none⟩ = some (.int .i64 a0_0) := (blk_cell BK43001.out 0).trans rfl; have hcz20_1 : w19.cell? ⟨gb43001, 1, none⟩ = some (.slice A0_1 l0_1.length c0_1) := (blk_cell BK43001.out 1).trans rfl; have hcz20_2 : w19.cell? ⟨gb43001, 2, none⟩ = some (.slice A0_2 l0_2.length c0_2) := (blk_cell BK43001.out 2).trans rfl; have hfz20_0 := blk_frozen BK43001.out 0; have hfz20_1 := blk_frozen BK43001.out 1; have hfz20_2 := blk_frozen BK43001.out 2; obtain ⟨Ao21, co21, eo21⟩ := Kd.R_slice HO43007.out; subst eo21; obtain ⟨Ao22, co22, eo22⟩ := Kd.R_slice HO43010.out; subst eo22))
      have n0_ : Aside0 (Kd.R (Kd.int .i64) 3 (((w19.setCell ⟨gb43001, 0, none⟩ (.int .i64 t43004)).setCell ⟨gb43001, 1, none⟩ (.slice Ao21 t43005.length co21)).setCell ⟨gb43001, 2, none⟩ (.slice Ao22 t43008.length co22)) w.heap.size (fun k_ => some k_ ≠ (.slice Ao22 t43008.length co22 : Value).ownBlock) (.slice Ao21 t43005.length co21) t43005) := ⟨Kd.R_ext (Kd.R_mono (Kd.R_far (p := ⟨gb43001, 2, none⟩) (Kd.R_far (p := ⟨gb43001, 1, none⟩) (Kd.R_far (p := ⟨gb43001, 0, none⟩) (Kd.R_types HO43007.out BK43001.out (by decide)) (fun _ hk => hk.2) (.int .i64 t43004)) (fun _ hk => hk.2) (.slice Ao21 t43005.length co21)) (fun _ hk => hk.2) (.slice Ao22 t43008.length co22)) (fun _ hk => hk.1))⟩
      have n1_ : Aside0 (Kd.R (Kd.int .i64) 3 (((w19.setCell ⟨gb43001, 0, none⟩ (.int .i64 t43004)).setCell ⟨gb43001, 1, none⟩ (.slice Ao21 t43005.length co21)).setCell ⟨gb43001, 2, none⟩ (.slice Ao22 t43008.length co22)) w.heap.size (fun k_ => some k_ ≠ (.slice Ao21 t43005.length co21 : Value).ownBlock) (.slice Ao22 t43008.length co22) t43008) := ⟨Kd.R_ext (Kd.R_mono (Kd.R_far (p := ⟨gb43001, 2, none⟩) (Kd.R_far (p := ⟨gb43001, 1, none⟩) (Kd.R_far (p := ⟨gb43001, 0, none⟩) (Kd.R_types HO43010.out BK43001.out (by decide)) (fun _ hk => hk.2) (.int .i64 t43004)) (fun _ hk => hk.2) (.slice Ao21 t43005.length co21)) (fun _ hk => hk.2) (.slice Ao22 t43008.length co22)) (fun _ hk => hk.1))⟩
      have n2_ : Aside0 ((((w19.setCell ⟨gb43001, 0, none⟩ (.int .i64 t43004)).setCell ⟨gb43001, 1, none⟩ (.slice Ao21 t43005.length co21)).setCell ⟨gb43001, 2, none⟩ (.slice Ao22 t43008.length co22)).heap[gb43001]? = some (.cells #[.int .i64 t43004, .slice Ao21 t43005.length co21, .slice Ao22 t43008.length co22] 44 (0, 0))) := ⟨by (with_reducible repeat (first | refine blk_drewN ?_ _ | refine blk_drew ?_ | refine blk_alloc ?_ _)); refine blk_put (cs := #[.int .i64 t43004, .slice Ao21 t43005.length co21, .slice A0_2 l0_2.length c0_2]) ?_ 2 _ rfl; (with_reducible repeat (first | refine blk_drewN ?_ _ | refine blk_drew ?_ | refine blk_alloc ?_ _)); refine blk_put (cs := #[.int .i64 t43004, .slice A0_1 l0_1.length c0_1, .slice A0_2 l0_2.length c0_2]) ?_ 1 _ rfl; (with_reducible repeat (first | refine blk_drewN ?_ _ | refine blk_drew ?_ | refine blk_alloc ?_ _)); refine blk_put (cs := #[.int .i64 a0_0, .slice A0_1 l0_1.length c0_1, .slice A0_2 l0_2.length c0_2]) ?_ 0 _ rfl; exact blk_ext BK43001.out⟩
      have n3_ : Aside0 ((((w19.setCell ⟨gb43001, 0, none⟩ (.int .i64 t43004)).setCell ⟨gb43001, 1, none⟩ (.slice Ao21 t43005.length co21)).setCell ⟨gb43001, 2, none⟩ (.slice Ao22 t43008.length co22)).heap[gb43002]? = some (.cells #[.int .i64 0, .slice none 0 0, .slice none 0 0] 44 (0, 0))) := ⟨blk_extC BK43002.out⟩
      have n4_ : Aside0 (Below w.heap.size w (((w19.setCell ⟨gb43001, 0, none⟩ (.int .i64 t43004)).setCell ⟨gb43001, 1, none⟩ (.slice Ao21 t43005.length co21)).setCell ⟨gb43001, 2, none⟩ (.slice Ao22 t43008.length co22))) := ⟨below_extB HB.out⟩
      (try clear HO43007)
      (try clear HO43010)
      (try clear BK43001)
      (try clear BK43002)
      (try clear HB)
      generalize (((w19.setCell ⟨gb43001, 0, none⟩ (.int .i64 t43004)).setCell ⟨gb43001, 1, none⟩ (.slice Ao21 t43005.length co21)).setCell ⟨gb43001, 2, none⟩ (.slice Ao22 t43008.length co22)) = w23 at n0_ n1_ n2_ n3_ n4_ ⊢
      have HO43007 := n0_
      have HO43010 := n1_
      have BK43001 := n2_
      have BK43002 := n3_
      have HB := n4_
      clear n0_ n1_ n2_ n3_ n4_
      have n0_ := Aside0.mk (Kd.R_drew HO43007.out)
      have n1_ := Aside0.mk (Kd.R_drew HO43010.out)
      have n2_ := Aside0.mk (blk_drew BK43001.out)
      have n3_ := Aside0.mk (blk_drew BK43002.out)
      have n4_ := Aside0.mk (below_drew1 HB.out)
      clear HO43007
      clear HO43010
      clear BK43001
      clear BK43002
      clear HB
      have HO43007 := n0_
      have HO43010 := n1_
      have BK43001 := n2_
      have BK43002 := n3_
      have HB := n4_
      clear n0_ n1_ n2_ n3_ n4_
      have p43011 : 0 ≤ (a1 : Int) := of_decide_eq_true (by first | (with_reducible assumption) | assumption)
      have q43011 : a1 < (t43005.length : Int) := of_decide_eq_true (by first | (with_reducible assumption) | assumption)
      obtain ⟨ad43011, e43011, hx43011_0⟩ := Kd.at_int (Kd.R_reads' HO43007.out).2.2 a1 p43011 q43011
      cases e43011
      replace p43011 := eq_true p43011
      replace q43011 := eq_true q43011
      refine start_ (n := 11) (S := fun w' => w'.cell? ⟨gb43001, 0, none⟩ = some (.int .i64 t43004) ∧ w'.cell? ⟨gb43001, 1, none⟩ = some (.slice (some ad43011) t43005.length co21) ∧ w'.cell? ⟨gb43001, 2, none⟩ = some (.slice Ao22 t43008.length co22) ∧ w'.cell? (ad43011.add (a1).toNat) = some (.int .i64 (rd t43005 a1))) (ds := [8, 10]) #[false, false, false, false, false, false, false, false, false, false, false] (by kernel_rfl) rfl rfl ⟨(blk_cell BK43001.out 0).trans rfl, (blk_cell BK43001.out 1).trans rfl, (blk_cell BK43001.out 2).trans rfl, hx43011_0⟩ (fun hHeld => ?_); refine with_tabW channel_Repeat.tab6 channel_Repeat.bits6 (fun HT_ HW_ => ?_)
      generalize w23.drew = w24 at HO43007 HO43010 BK43001 BK43002 HB hx43011_0 hHeld ⊢
      refine pure_ (i := 0) (N := some 21) (v := ?_) (a' := ?_) #[true, false, false, false, false, false, false, false, false, false, false] rfl rfl (any_of HT_.out (by kernel_rfl)) (fun _ _ _ h => h) (Or.inl ⟨by rfl, ?_⟩) ?_ ?_
      rotate_left
      · intro w'
        go_simp
        with_reducible rfl
      rotate_left
      · simp only [Act.put, List.setIfInBounds_toArray, List.set_cons_zero, List.set_cons_succ, i64_w, i32_w]
        rfl
      refine pure_ (i := 2) (N := some 23) (v := ?_) (a' := ?_) #[true, false, true, false, false, false, false, false, false, false, false] rfl rfl (any_of HT_.out (by kernel_rfl)) (fun _ _ _ h => h) (Or.inl ⟨by rfl, ?_⟩) ?_ ?_
      rotate_left
      · intro w'
        go_simp
        with_reducible rfl
      rotate_left
      · simp only [Act.put, List.setIfInBounds_toArray, List.set_cons_zero, List.set_cons_succ, i64_w, i32_w]
        rfl
      refine pure_ (i := 4) (N := some 25) (v := ?_) (a' := ?_) #[true, false, true, false, true, false, false, false, false, false, false] rfl rfl (any_of HT_.out (by kernel_rfl)) (fun _ _ _ h => h) (Or.inl ⟨by rfl, ?_⟩) ?_ ?_
      rotate_left
      · intro w'
        go_simp
        with_reducible rfl
      rotate_left
      · simp only [Act.put, List.setIfInBounds_toArray, List.set_cons_zero, List.set_cons_succ, i64_w, i32_w]
        rfl
      refine take_ (i := 1) (N := some 22) (v := ?_) (a' := ?_) #[true, true, true, false, true, false, false, false, false, false, false] rfl rfl (take_ofW HT_.out HW_.out (by kernel_rfl)) (fun _ _ _ h => h) (Or.inl ⟨by rfl, ?_⟩) hHeld ?_ ?_
      rotate_left
      · rintro w' ⟨s0, s1, s2, s3⟩
        go_simp
        with_reducible rfl
      rotate_left
      · simp only [Act.put, List.setIfInBounds_toArray, List.set_cons_zero, List.set_cons_succ, i64_w, i32_w]
        rfl
      refine take_ (i := 3) (N := some 24) (v := ?_) (a' := ?_) #[true, true, true, true, true, false, false, false, false, false, false] rfl rfl (take_ofW HT_.out HW_.out (by kernel_rfl)) (fun _ _ _ h => h) (Or.inl ⟨by rfl, ?_⟩) hHeld ?_ ?_
      rotate_left
      · rintro w' ⟨s0, s1, s2, s3⟩
        go_simp
        with_reducible rfl
      rotate_left
      · simp only [Act.put, List.setIfInBounds_toArray, List.set_cons_zero, List.set_cons_succ, i64_w, i32_w]
        rfl
      refine pure_ (i := 5) (N := some 26) (v := ?_) (a' := ?_) #[true, true, true, true, true, true, false, false, false, false, false] rfl rfl (any_of HT_.out (by kernel_rfl)) (fun _ _ _ h => h) (Or.inl ⟨by rfl, ?_⟩) ?_ ?_
      rotate_left
      · intro w'
        go_simp
        with_reducible rfl
      rotate_left
      · simp only [Act.put, List.setIfInBounds_toArray, List.set_cons_zero, List.set_cons_succ, i64_w, i32_w]
        rfl
      refine take_ (i := 6) (N := some 27) (v := ?_) (a' := ?_) #[true, true, true, true, true, true, true, false, false, false, false] rfl rfl (take_ofW HT_.out HW_.out (by kernel_rfl)) (fun _ _ _ h => h) (Or.inl ⟨by rfl, ?_⟩) hHeld ?_ ?_
      rotate_left
      · rintro w' ⟨s0, s1, s2, s3⟩
        go_simp
        with_reducible rfl
      rotate_left
      · simp only [Act.put, List.setIfInBounds_toArray, List.set_cons_zero, List.set_cons_succ, i64_w, i32_w]
        rfl
      refine one_ (i := 7) (N := some 28) #[true, true, true, true, true, true, true, true, false, false, false] rfl rfl (one_of HT_.out (by kernel_rfl)) (by decide) (fun K hK => ?_)
      refine value_ (w1 := ?_) (v := ?_) (by rfl) rfl ?_ ?_
      rotate_left 2
      · go_simp
        constructor
        · rfl
        · rfl
      refine hK.out _ _ ⟨(blk_cell (blk_alloc BK43001.out _) 0).trans rfl, (blk_cell (blk_alloc BK43001.out _) 1).trans rfl, (blk_cell (blk_alloc BK43001.out _) 2).trans rfl, (World.cell?_alloc_lt _ _ _ (World.block_lt_of_cell? _ _ (hHeld.2.2.2))).trans (hHeld.2.2.2)⟩ (fun hHeld => ?_)
      clear hK K
      refine norm_ (a' := ?_) ?_ ?_
      rotate_left
      · show Act.put _ (some 28) _ = _
        simp only [Act.put, List.setIfInBounds_toArray, List.set_cons_zero, List.set_cons_succ, i64_w, i32_w]
        rfl
      refine last_ (i := 8) (N := some 29) #[true, true, true, true, true, true, true, true, true, false, false] rfl rfl (one_of HT_.out (by kernel_rfl)) (by decide) (fun K hK => ?_)
      refine Kd.R_append_step (Kd.int .i64) (w0 := w) w.heap.size (by rfl) (.tmp 22) (.tmp 28) 42 3 (.int .i64 0) 8 rfl Try.underlying42 info3 rfl (by decide) (by omega) (.slice (some ad43011) t43005.length co21) t43005 (rd t43005 a1) [.int .i64 (rd t43005 a1)] (fun k_ => some k_ ≠ (.slice Ao22 t43008.length co22 : Value).ownBlock) (fun _ => False) rfl rfl ?aP (fun _ hk => hk.elim) ?aF ?aO ?aB ?aS ?aL ?_
      (case aP => exact rfl)
      (case aB => exact (below_extB HB.out))
      (case aF => exact (fun k_ hk => Kd.fresh' (Kd.R_lt (Kd.R_ext HO43010.out)) k_ hk))
      (case aO => exact (Kd.R_ext HO43007.out))
      (case aS => exact (below_size (below_extB HB.out)))
      (case aL => have := LMc14.out; omega)
      intro v43013 w25 ho hb hg hat
      rw [← Ny43012.out] at ho
      have n0_ := Aside0.mk (blk_grown (g := gb43001) (o := .cells #[.int .i64 t43004, .slice (some ad43011) t43005.length co21, .slice Ao22 t43008.length co22] 44 (0, 0)) (blk_ext BK43001.out) hg (Kd.R_ne HO43007.out BK43001.out (by decide)))
      have n1_ := Aside0.mk (blk_grown (g := gb43002) (o := .cells #[.int .i64 0, .slice none 0 0, .slice none 0 0] 44 (0, 0)) (blk_ext BK43002.out) hg (Kd.R_ne HO43007.out BK43002.out (by decide)))
      have n2_ := Aside0.mk (Kd.R_after (ok := (fun _ => True)) (Kd.R_ext (Kd.R_mono HO43010.out (fun _ hk => ⟨trivial, hk⟩))) hg hat)
      have n3_ := Aside0.mk (hb)
      have n4_ := Aside0.mk (ho)
      clear BK43001
      clear BK43002
      clear HO43010
      clear HB
      clear HO43007
      have BK43001 := n0_
      have BK43002 := n1_
      have HO43010 := n2_
      have HB := n3_
      have HO43014 := n4_
      clear n0_ n1_ n2_ n3_ n4_
      clear ho hb hg hat
      obtain ⟨Ao26, co26, eo26⟩ := Kd.R_slice HO43014.out
      (first | subst eo26 | (injection eo26 with f1_ f2_ f3_; have f4_ := f1_.symm; have f5_ := f3_.symm; clear f1_ f2_ f3_; subst f4_; subst f5_))
      refine hK.out _ _ ?_
      clear hK K
      refine norm_ (a' := ?_) ?_ ?_
      rotate_left
      · show Act.put _ (some 29) _ = _
        simp only [Act.put, List.setIfInBounds_toArray, List.set_cons_zero, List.set_cons_succ, i64_w, i32_w]
        rfl
      refine pure_ (i := 9) (N := some 30) (v := ?_) (a' := ?_) #[true, true, true, true, true, true, true, true, true, true, false] rfl rfl (any_of HT_.out (by kernel_rfl)) (fun _ _ _ h => h) (Or.inl ⟨by rfl, ?_⟩) ?_ ?_
      rotate_left
      · intro w'
        go_simp
        with_reducible rfl
      rotate_left
      · simp only [Act.put, List.setIfInBounds_toArray, List.set_cons_zero, List.set_cons_succ, i64_w, i32_w]
        rfl
      refine last_ (i := 10) (N := none) #[true, true, true, true, true, true, true, true, true, true, true] rfl rfl (one_of HT_.out (by kernel_rfl)) (by decide) (fun K hK => ?_)
      have hs27 : w25.cell? ⟨gb43001, 1, none⟩ = some (.slice (some ad43011) t43005.length co21) := (blk_cell BK43001.out 1).trans rfl
      have hfs27 := blk_frozen BK43001.out 1
      have hns27_1 := NB43002_43001.out
      have hms27_1 := NB43001_43002.out
      refine skip_ (w1 := ?_) (by rfl) rfl ?_ ?_
      rotate_left
      · go_simp
        rfl
      refine hK.out _ _ ?_
      clear hK K
      refine done_ (done_of HT_.out (by kernel_rfl)) ?_
      have hcz28_0 : w25.cell? ⟨gb43001, 0, none⟩ = some (.int .i64 t43004) := (blk_cell BK43001.out 0).trans rfl
      have hcz28_1 : w25.cell? ⟨gb43001, 1, none⟩ = some (.slice (some ad43011) t43005.length co21) := (blk_cell BK43001.out 1).trans rfl
      have hcz28_2 : w25.cell? ⟨gb43001, 2, none⟩ = some (.slice Ao22 t43008.length co22) := (blk_cell BK43001.out 2).trans rfl
      have hfz28_0 := blk_frozen BK43001.out 0
      have hfz28_1 := blk_frozen BK43001.out 1
      have hfz28_2 := blk_frozen BK43001.out 2
      have hcz29_0 : w25.cell? ⟨gb43002, 0, none⟩ = some (.int .i64 0) := (blk_cell BK43002.out 0).trans rfl
      have hcz29_1 : w25.cell? ⟨gb43002, 1, none⟩ = some (.slice none 0 0) := (blk_cell BK43002.out 1).trans rfl
      have hcz29_2 : w25.cell? ⟨gb43002, 2, none⟩ = some (.slice none 0 0) := (blk_cell BK43002.out 2).trans rfl
      have hfz29_0 := blk_frozen BK43002.out 0
      have hfz29_1 := blk_frozen BK43002.out 1
      have hfz29_2 := blk_frozen BK43002.out 2
      try go_wp2
      refine bodyPost_ret (results_ct rfl _ _ gb43002 44 #[.int .i64 t43004, .slice Ao26 y43012.length co26, .slice Ao22 t43008.length co22] (0, 0) _ rfl (by (with_reducible repeat (first | refine blk_drewN ?_ _ | refine blk_drew ?_ | refine blk_alloc ?_ _)); refine blk_put (cs := #[.int .i64 t43004, .slice Ao26 y43012.length co26, .slice none 0 0]) ?_ 2 _ rfl; (with_reducible repeat (first | refine blk_drewN ?_ _ | refine blk_drew ?_ | refine blk_alloc ?_ _)); refine blk_put (cs := #[.int .i64 t43004, .slice none 0 0, .slice none 0 0]) ?_ 1 _ rfl; (with_reducible repeat (first | refine blk_drewN ?_ _ | refine blk_drew ?_ | refine blk_alloc ?_ _)); refine blk_put (cs := #[.int .i64 0, .slice none 0 0, .slice none 0 0]) ?_ 0 _ rfl; (with_reducible repeat (first | refine blk_drewN ?_ _ | refine blk_drew ?_ | refine blk_alloc ?_ _)); refine blk_far ?_ NB43002_43001.out _; exact blk_ext BK43002.out) Try.underlying44 rfl (by kernel_rfl)) rfl ?_
      exact ⟨_, _, by first | rfl | (simp [errW_none, errW_some] <;> rfl) | (simp [*, errW_none, errW_some] <;> rfl), Kd.R_ext (Kd.R_mono (Kd.R_far (p := ⟨gb43002, 2, none⟩) (Kd.R_far (p := ⟨gb43002, 1, none⟩) (Kd.R_far (p := ⟨gb43002, 0, none⟩) (Kd.R_far (p := ⟨gb43001, 1, none⟩) (Kd.R_types (Kd.R_types HO43014.out BK43001.out (by decide)) BK43002.out (by decide)) (fun _ hk => hk.1.2) (.slice Ao26 y43012.length co26)) (fun _ hk => hk.2) (.int .i64 t43004)) (fun _ hk => hk.2) (.slice Ao26 y43012.length co26)) (fun _ hk => hk.2) (.slice Ao22 t43008.length co22)) (fun _ hk => hk.1.1)), Kd.R_ext (Kd.R_mono (Kd.R_far (p := ⟨gb43002, 2, none⟩) (Kd.R_far (p := ⟨gb43002, 1, none⟩) (Kd.R_far (p := ⟨gb43002, 0, none⟩) (Kd.R_far (p := ⟨gb43001, 1, none⟩) (Kd.R_types (Kd.R_types HO43010.out BK43001.out (by decide)) BK43002.out (by decide)) (fun _ hk => hk.1.2) (.slice Ao26 y43012.length co26)) (fun _ hk => hk.2) (.int .i64 t43004)) (fun _ hk => hk.2) (.slice Ao26 y43012.length co26)) (fun _ hk => hk.2) (.slice Ao22 t43008.length co22)) (fun _ hk => hk.1.1.2)), below_extB HB.out⟩
  · replace c4 := Bool.eq_false_iff.mpr c4
    subst c4
    have H1 : (some (0, ([] : List Int), ([] : List Int), 2)) = some (r1, r2, r3, r4) := by rw [if_neg (show ¬ (false = true) by decide)] at H; exact H
    clear H
    have H := H1
    clear H1
    simp only [Option.some.injEq, Prod.mk.injEq] at H
    obtain ⟨rfl, rfl, rfl, rfl⟩ := H
    go_enter Try.func43, Try.ntmps43
    go_wp2_with (first | ((with_reducible refine gate_dst (N := 2) rfl ?_); refine box_event ?hg (N := 2) ?hd (cs := #[.int .i64 a0_0, .slice A0_1 l0_1.length c0_1, .slice A0_2 l0_2.length c0_2]) (t := 44) ?hr ?_; (case hd => rfl); (case hg => rfl); (case hr => first | (go_simp; done) | (go_simp; rfl)); intro gb43001 hg w30 hbox hb; have n1_ := Aside0.mk (hbox); have n2_ := Aside0.mk ((by rw [hg]; exact (below_size (below_ext HB.out)) : w.heap.size ≤ gb43001)); have n3_ := Aside0.mk ((by rw [hg]; exact (below_size (below_ext HB.out)) : w.heap.size ≤ gb43001)); have BK43001 := n1_; have GW43001 := n2_; have GE43001 := n3_; have GI43001 := GE_.mk GE43001.out; replace HB := mvH HB hb; clear n1_ n2_ n3_; clear hb hbox hg) | ((with_reducible refine gate_dst (N := 4) rfl ?_); refine box_event ?hg (N := 4) ?hd (cs := #[.int .i64 0, .slice none 0 0, .slice none 0 0]) (t := 44) ?hr ?_; (case hd => rfl); (case hg => rfl); (case hr => first | (go_simp; done) | (go_simp; rfl)); intro gb43002 hg w31 hbox hb; have n2_ := Aside0.mk (hbox); have n3_ := Aside0.mk ((by rw [hg]; exact (below_size (below_extB HB.out)) : w.heap.size ≤ gb43002)); have n4_ := Aside0.mk ((by rw [hg]; exact (below_size (below_extB HB.out)) : w.heap.size ≤ gb43002)); have n5_ := Aside0.mk ((by rw [hg]; exact Nat.ne_of_lt (blk_lt (blk_ext BK43001.out)) : gb43001 ≠ gb43002)); have n6_ := Aside0.mk ((by rw [hg]; exact Nat.ne_of_gt (blk_lt (blk_ext BK43001.out)) : gb43002 ≠ gb43001)); have BK43002 := n2_; have GW43002 := n3_; have GE43002 := n4_; have GI43002 := GE_.mk GE43002.out; have NB43001_43002 := n5_; have NI43001_43002 := NE_.mk NB43001_43002.out; have NB43002_43001 := n6_; have NI43002_43001 := NE_.mk NB43002_43001.out; replace BK43001 := mvB BK43001 hb; replace HB := mvH HB hb; clear n2_ n3_ n4_ n5_ n6_; clear hb hbox hg; have hnb32 := NB43001_43002.out; have hnc32 := NB43002_43001.out; have hcz33_0 : w31.cell? ⟨gb43001, 0, none⟩ = some (.int .i64 a0_0) := (blk_cell BK43001.out 0).trans rfl; have hcz33_1 : w31.cell? ⟨gb43001, 1, none⟩ = some (.slice A0_1 l0_1.length c0_1) := (blk_cell BK43001.out 1).trans rfl; have hcz33_2 : w31.cell? ⟨gb43001, 2, none⟩ = some (.slice A0_2 l0_2.length c0_2) := (blk_cell BK43001.out 2).trans rfl; have hfz33_0 := blk_frozen BK43001.out 0; have hfz33_1 := blk_frozen BK43001.out 1; have hfz33_2 := blk_frozen BK43001.out 2) | ((with_reducible refine gate_callee (f := 71) rfl ?_); refine goesL_ (some 10) rfl rfl Try.func71 (by kernel_rfl) rfl #[.slice A0_1 l0_1.length c0_1, .int .i64 a1] rfl (by (try simp only [List.map_toArray, List.map_cons, List.map_nil]); first | done | rfl | (simp only [List.length_drop, List.length_take]; rfl)) ?_; (with_reducible refine (channel_has.calls _ _ l0_1 a1 false _ ?side1 ?side2 A3.out).mono ?_); (case side1 => repeat (first | exact (Kd.C_below HR0_1.out HB.out) | (with_reducible refine Kd.C_alloc ?_ _) | (with_reducible refine Kd.C_drewN ?_ _) | (with_reducible refine Kd.C_drew ?_))); (case side2 => exact HC0_1.out); rintro e w' ⟨rfl, ⟨nd, rfl⟩⟩; refine ⟨_, rfl, ?_⟩; (try (rw [drewN_self w31]; generalize hq_ : World.drewN w31 _ = w31; have n0_ : Aside0 (w31.heap[gb43001]? = some (.cells #[.int .i64 a0_0, .slice A0_1 l0_1.length c0_1, .slice A0_2 l0_2.length c0_2] 44 (0, 0))) := ⟨by rw [← hq_]; exact (blk_ext BK43001.out)⟩; have n1_ : Aside0 (w31.heap[gb43002]? = some (.cells #[.int .i64 0, .slice none 0 0, .slice none 0 0] 44 (0, 0))) := ⟨by rw [← hq_]; exact (blk_ext BK43002.out)⟩; have n2_ : Aside0 (Below w.heap.size w w31) := ⟨by rw [← hq_]; exact (below_extB HB.out)⟩; clear BK43001 BK43002 HB hq_; have BK43001 := n0_; have BK43002 := n1_; have HB := n2_; clear n0_ n1_ n2_)); (try have hcz33_0 : w31.cell? ⟨gb43001, 0, none⟩ = some (.int .i64 a0_0) := (blk_cell BK43001.out 0).trans rfl); (try have hcz33_1 : w31.cell? ⟨gb43001, 1, none⟩ = some (.slice A0_1 l0_1.length c0_1) := (blk_cell BK43001.out 1).trans rfl); (try have hcz33_2 : w31.cell? ⟨gb43001, 2, none⟩ = some (.slice A0_2 l0_2.length c0_2) := (blk_cell BK43001.out 2).trans rfl); have hcz34_0 : w31.cell? ⟨gb43002, 0, none⟩ = some (.int .i64 0) := (blk_cell BK43002.out 0).trans rfl; have hcz34_1 : w31.cell? ⟨gb43002, 1, none⟩ = some (.slice none 0 0) := (blk_cell BK43002.out 1).trans rfl; have hcz34_2 : w31.cell? ⟨gb43002, 2, none⟩ = some (.slice none 0 0) := (blk_cell BK43002.out 2).trans rfl; have hfz34_0 := blk_frozen BK43002.out 0; have hfz34_1 := blk_frozen BK43002.out 1; have hfz34_2 := blk_frozen BK43002.out 2))
    refine bodyPost_ret (results_ct rfl _ _ gb43002 44 #[.int .i64 0, .slice none 0 0, .slice none 0 0] (0, 0) _ rfl (by (with_reducible repeat (first | refine blk_drewN ?_ _ | refine blk_drew ?_ | refine blk_alloc ?_ _)); refine blk_put (cs := #[.int .i64 0, .slice none 0 0, .slice none 0 0]) ?_ 2 _ rfl; (with_reducible repeat (first | refine blk_drewN ?_ _ | refine blk_drew ?_ | refine blk_alloc ?_ _)); refine blk_put (cs := #[.int .i64 0, .slice none 0 0, .slice none 0 0]) ?_ 1 _ rfl; (with_reducible repeat (first | refine blk_drewN ?_ _ | refine blk_drew ?_ | refine blk_alloc ?_ _)); refine blk_put (cs := #[.int .i64 0, .slice none 0 0, .slice none 0 0]) ?_ 0 _ rfl; exact blk_ext BK43002.out) Try.underlying44 rfl (by kernel_rfl)) rfl ?_
    exact ⟨_, _, by first | rfl | (simp [errW_none, errW_some] <;> rfl) | (simp [*, errW_none, errW_some] <;> rfl), by first | exact Kd.R_nil _ _ _ _ _ | exact Kd.N_nil _ _ _ _ _ | exact Kd.V_nil _ _ _ _ _ | exact Kd.Q_nil _ _ _ _ _ | exact Kd.S_nil _ _ _ _ _, by first | exact Kd.R_nil _ _ _ _ _ | exact Kd.N_nil _ _ _ _ _ | exact Kd.V_nil _ _ _ _ _ | exact Kd.Q_nil _ _ _ _ _ | exact Kd.S_nil _ _ _ _ _, below_extB HB.out⟩

end Go.Proofs.Ytfljnggpnndmkaa.Z
