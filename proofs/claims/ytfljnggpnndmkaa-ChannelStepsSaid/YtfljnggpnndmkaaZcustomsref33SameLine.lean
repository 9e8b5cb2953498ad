/- Written by a program of this session: each Go function as a plain Lean function, and that the machine's call does what it says. Conditions: none but those each theorem states. -/
import Derived.Test.YtfljnggpnndmkaaZ0
import Derived.Test.YtfljnggpnndmkaaZcustomsref33SameInts
namespace Go.Proofs.Ytfljnggpnndmkaa.Z
open Go.RowKit Go.Proofs.YtfljnggpnndmkaaW.PrintWords Go.Proofs.YtfljnggpnndmkaaW.PrintLast Go.Proofs.YtfljnggpnndmkaaW.PrintMore
attribute [local go_sem] max2_int min2_int max_two min_two max_three min_three max_four min_four   -- for this text's walks alone
set_option linter.unusedVariables false
set_option linter.unusedSimpArgs false

/-! ### customsref33_SameLine: function 35 -/
def customsref33_SameLine.f (k : Nat) (a0_0 : Int) (l0_1 : List Int) (l0_2 : List Int) (a1_0 : Int) (l1_1 : List Int) (l1_2 : List Int) : Option (Bool) := if a0_0 = a1_0 then ((customsref33_SameInts.f k l0_1 l1_1).bind fun t35003 => (if t35003 = true then ((customsref33_SameInts.f k l0_2 l1_2).bind fun t35004 => (some t35004)) else (some false))) else (some false)
theorem customsref33_SameLine.mono : ∀ a0 a1 a2 a3 a4 a5 k, LeO (customsref33_SameLine.f k a0 a1 a2 a3 a4 a5) (customsref33_SameLine.f (k + 1) a0 a1 a2 a3 a4 a5) := by
  intro a0 a1 a2 a3 a4 a5 k
  unfold customsref33_SameLine.f
  repeat' first
      | (with_reducible exact customsref33_SameInts.mono _ _ _)
      | (with_reducible exact LeO.refl _)
      | (with_reducible exact LeO.none _)
      | (with_reducible refine LeO.ite ?_ ?_)
      | (with_reducible refine LeO.bind ?_ (fun _ => ?_))
      | exact customsref33_SameInts.mono _ _ _
      | exact LeO.none _
      | refine LeO.ite ?_ ?_
      | refine LeO.bind ?_ (fun _ => ?_)
set_option maxHeartbeats 8000000 in
set_option maxRecDepth 100000 in
theorem customsref33_SameLine.calls (k : Nat) (a0_0 : Int) (A0_1 : Option Addr) (c0_1 : Nat) (l0_1 : List Int) (A0_2 : Option Addr) (c0_2 : Nat) (l0_2 : List Int) (a1_0 : Int) (A1_1 : Option Addr) (c1_1 : Nat) (l1_1 : List Int) (A1_2 : Option Addr) (c1_2 : Nat) (l1_2 : List Int) (r : Bool) (w : World) (hr0_1 : Kd.C (Kd.int .i64) w A0_1 l0_1.length l0_1) (hc0_1 : l0_1.length ≤ c0_1) (hr0_2 : Kd.C (Kd.int .i64) w A0_2 l0_2.length l0_2) (hc0_2 : l0_2.length ≤ c0_2) (hr1_1 : Kd.C (Kd.int .i64) w A1_1 l1_1.length l1_1) (hc1_1 : l1_1.length ≤ c1_1) (hr1_2 : Kd.C (Kd.int .i64) w A1_2 l1_2.length l1_2) (hc1_2 : l1_2.length ≤ c1_2) (h : customsref33_SameLine.f k a0_0 l0_1 l0_2 a1_0 l1_1 l1_2 = some r) :
    Calls Try.prog 35 #[.agg #[.int .i64 a0_0, .slice A0_1 l0_1.length c0_1, .slice A0_2 l0_2.length c0_2], .agg #[.int .i64 a1_0, .slice A1_1 l1_1.length c1_1, .slice A1_2 l1_2.length c1_2]] w fun e w' => e = .returned (.bool r) ∧ Below w.heap.size w w' := by
  have hu44 := Try.underlying44
  have HR0_1 := Aside0.mk hr0_1
  have HC0_1 := Aside0.mk hc0_1
  clear hr0_1 hc0_1
  have HR0_2 := Aside0.mk hr0_2
  have HC0_2 := Aside0.mk hc0_2
  clear hr0_2 hc0_2
  have HR1_1 := Aside0.mk hr1_1
  have HC1_1 := Aside0.mk hc1_1
  clear hr1_1 hc1_1
  have HR1_2 := Aside0.mk hr1_2
  have HC1_2 := Aside0.mk hc1_2
  clear hr1_2 hc1_2
  have HB := Aside0.mk (Below.refl w.heap.size w)
  have H : (if a0_0 = a1_0 then ((customsref33_SameInts.f k l0_1 l1_1).bind fun t35003 => (if t35003 = true then ((customsref33_SameInts.f k l0_2 l1_2).bind fun t35004 => (some t35004)) else (some false))) else (some false)) = some r := h
  clear h
  by_cases c3 : a0_0 = a1_0
  · rw [if_pos c3] at H
    have c3b0 : (a0_0 == a1_0) = true := beq_iff_eq.mpr c3
    have c3b1 : (a0_0 != a1_0) = false := bne_eq_false_iff_eq.mpr c3
    clear c3
    replace H := Option.bind_eq_some_iff.mp H
    obtain ⟨t35003, A40, H⟩ := H
    try dsimp only at H
    have A4 := Aside0.mk A40
    clear A40
    by_cases c5 : t35003 = true
    · subst c5
      have H1 : ((customsref33_SameInts.f k l0_2 l1_2).bind fun t35004 => (some t35004)) = some r := by rw [if_pos rfl] at H; exact H
      clear H
      have H := H1
      clear H1
      replace H := Option.bind_eq_some_iff.mp H
      obtain ⟨t35004, A60, H⟩ := H
      try dsimp only at H
      have A6 := Aside0.mk A60
      clear A60
      obtain rfl := Option.some.inj H
      go_enter Try.func35, Try.ntmps35
      go_wp2_with (first | ((with_reducible refine gate_dst (N := 2) rfl ?_); refine box_event ?hg (N := 2) ?hd (cs := #[.int .i64 a0_0, .slice A0_1 l0_1.length c0_1, .slice A0_2 l0_2.length c0_2]) (t := 44) ?hr ?_; (case hd => rfl); (case hg => rfl); (case hr => first | (go_simp; done) | (go_simp; rfl)); intro gb35001 hg w7 hbox hb; have n1_ := Aside0.mk (hbox); have n2_ := Aside0.mk ((by rw [hg]; exact (below_size (below_ext HB.out)) : w.heap.size ≤ gb35001)); have n3_ := Aside0.mk ((by rw [hg]; exact (below_size (below_ext HB.out)) : w.heap.size ≤ gb35001)); have BK35001 := n1_; have GW35001 := n2_; have GE35001 := n3_; have GI35001 := GE_.mk GE35001.out; replace HB := mvH HB hb; clear n1_ n2_ n3_; clear hb hbox hg) | ((with_reducible refine gate_dst (N := 3) rfl ?_); refine box_event ?hg (N := 3) ?hd (cs := #[.int .i64 a1_0, .slice A1_1 l1_1.length c1_1, .slice A1_2 l1_2.length c1_2]) (t := 44) ?hr ?_; (case hd => rfl); (case hg => rfl); (case hr => first | (go_simp; done) | (go_simp; rfl)); intro gb35002 hg w8 hbox hb; have n2_ := Aside0.mk (hbox); have n3_ := Aside0.mk ((by rw [hg]; exact (below_size (below_extB HB.out)) : w.heap.size ≤ gb35002)); have n4_ := Aside0.mk ((by rw [hg]; exact (below_size (below_extB HB.out)) : w.heap.size ≤ gb35002)); have n5_ := Aside0.mk ((by rw [hg]; exact Nat.ne_of_lt (blk_lt (blk_ext BK35001.out)) : gb35001 ≠ gb35002)); have n6_ := Aside0.mk ((by rw [hg]; exact Nat.ne_of_gt (blk_lt (blk_ext BK35001.out)) : gb35002 ≠ gb35001)); have BK35002 := n2_; have GW35002 := n3_; have GE35002 := n4_; have GI35002 := GE_.mk GE35002.out; have NB35001_35002 := n5_; have NB35002_35001 := n6_; replace BK35001 := mvB BK35001 hb; replace HB := mvH HB hb; clear n2_ n3_ n4_ n5_ n6_; clear hb hbox hg; have hnb9 := NB35001_35002.out; have hnc9 := NB35002_35001.out; have hcz10_0 : w8.cell? ⟨gb35001, 0, none⟩ = some (.int .i64 a0_0) := (blk_cell BK35001.out 0).trans rfl; have hcz10_1 : w8.cell? ⟨gb35001, 1, none⟩ = some (.slice A0_1 l0_1.length c0_1) := (blk_cell BK35001.out 1).trans rfl; have hcz10_2 : w8.cell? ⟨gb35001, 2, none⟩ = some (.slice A0_2 l0_2.length c0_2) := (blk_cell BK35001.out 2).trans rfl; have hfz10_0 := blk_frozen BK35001.out 0; have hfz10_1 := blk_frozen BK35001.out 1; have hfz10_2 := blk_frozen BK35001.out 2; have hcz11_0 : w8.cell? ⟨gb35002, 0, none⟩ = some (.int .i64 a1_0) := (blk_cell BK35002.out 0).trans rfl; have hcz11_1 : w8.cell? ⟨gb35002, 1, none⟩ = some (.slice A1_1 l1_1.length c1_1) := (blk_cell BK35002.out 1).trans rfl; have hcz11_2 : w8.cell? ⟨gb35002, 2, none⟩ = some (.slice A1_2 l1_2.length c1_2) := (blk_cell BK35002.out 2).trans rfl; have hfz11_0 := blk_frozen BK35002.out 0; have hfz11_1 := blk_frozen BK35002.out 1; have hfz11_2 := blk_frozen BK35002.out 2) | (go_at_call 66; (with_reducible refine (customsref33_SameInts.calls k _ _ l0_1 _ _ l1_1 true _ ?side1 ?side2 ?side3 ?side4 A4.out).mono ?_); (case side1 => repeat (first | exact (Kd.C_below HR0_1.out HB.out) | (with_reducible refine Kd.C_alloc ?_ _) | (with_reducible refine Kd.C_drewN ?_ _) | (with_reducible refine Kd.C_drew ?_))); (case side2 => exact HC0_1.out); (case side3 => repeat (first | exact (Kd.C_below HR1_1.out HB.out) | (with_reducible refine Kd.C_alloc ?_ _) | (with_reducible refine Kd.C_drewN ?_ _) | (with_reducible refine Kd.C_drew ?_))); (case side4 => exact HC1_1.out); rintro e w' ⟨rfl, ⟨nd, rfl⟩⟩) | (go_at_call 66; (with_reducible refine (customsref33_SameInts.calls k _ _ l0_2 _ _ l1_2 t35004 _ ?side1 ?side2 ?side3 ?side4 A6.out).mono ?_); (case side1 => repeat (first | exact (Kd.C_below HR0_2.out (below_extB HB.out)) | (with_reducible refine Kd.C_alloc ?_ _) | (with_reducible refine Kd.C_drewN ?_ _) | (with_reducible refine Kd.C_drew ?_))); (case side2 => exact HC0_2.out); (case side3 => repeat (first | exact (Kd.C_below HR1_2.out (below_extB HB.out)) | (with_reducible refine Kd.C_alloc ?_ _) | (with_reducible refine Kd.C_drewN ?_ _) | (with_reducible refine Kd.C_drew ?_))); (case side4 => exact HC1_2.out); rintro e w' ⟨rfl, ⟨nd, rfl⟩⟩))
      go_ret
      exact ⟨by first | rfl | (simp [errW_none, errW_some] <;> rfl) | (simp [*, errW_none, errW_some] <;> rfl), below_extB HB.out⟩
    · replace c5 := Bool.eq_false_iff.mpr c5
      subst c5
      have H1 : (some false) = some r := by rw [if_neg (show ¬ (false = true) by decide)] at H; exact H
      clear H
      have H := H1
      clear H1
      obtain rfl := Option.some.inj H
      go_enter Try.func35, Try.ntmps35
      go_wp2_with (first | ((with_reducible refine gate_dst (N := 2) rfl ?_); refine box_event ?hg (N := 2) ?hd (cs := #[.int .i64 a0_0, .slice A0_1 l0_1.length c0_1, .slice A0_2 l0_2.length c0_2]) (t := 44) ?hr ?_; (case hd => rfl); (case hg => rfl); (case hr => first | (go_simp; done) | (go_simp; rfl)); intro gb35001 hg w12 hbox hb; have n1_ := Aside0.mk (hbox); have n2_ := Aside0.mk ((by rw [hg]; exact (below_size (below_ext HB.out)) : w.heap.size ≤ gb35001)); have n3_ := Aside0.mk ((by rw [hg]; exact (below_size (below_ext HB.out)) : w.heap.size ≤ gb35001)); have BK35001 := n1_; have GW35001 := n2_; have GE35001 := n3_; have GI35001 := GE_.mk GE35001.out; replace HB := mvH HB hb; clear n1_ n2_ n3_; clear hb hbox hg) | ((with_reducible refine gate_dst (N := 3) rfl ?_); refine box_event ?hg (N := 3) ?hd (cs := #[.int .i64 a1_0, .slice A1_1 l1_1.length c1_1, .slice A1_2 l1_2.length c1_2]) (t := 44) ?hr ?_; (case hd => rfl); (case hg => rfl); (case hr => first | (go_simp; done) | (go_simp; rfl)); intro gb35002 hg w13 hbox hb; have n2_ := Aside0.mk (hbox); have n3_ := Aside0.mk ((by rw [hg]; exact (below_size (below_extB HB.out)) : w.heap.size ≤ gb35002)); have n4_ := Aside0.mk ((by rw [hg]; exact (below_size (below_extB HB.out)) : w.heap.size ≤ gb35002)); have n5_ := Aside0.mk ((by rw [hg]; exact Nat.ne_of_lt (blk_lt (blk_ext BK35001.out)) : gb35001 ≠ gb35002)); have n6_ := Aside0.mk ((by rw [hg]; exact Nat.ne_of_gt (blk_lt (blk_ext BK35001.out)) : gb35002 ≠ gb35001)); have BK35002 := n2_; have GW35002 := n3_; have GE35002 := n4_; have GI35002 := GE_.mk GE35002.out; have NB35001_35002 := n5_; have NB35002_35001 := n6_; replace BK35001 := mvB BK35001 hb; replace HB := mvH HB hb; clear n2_ n3_ n4_ n5_ n6_; clear hb hbox hg; have hnb14 := NB35001_35002.out; have hnc14 := NB35002_35001.out; have hcz15_0 : w13.cell? ⟨gb35001, 0, none⟩ = some (.int .i64 a0_0) := (blk_cell BK35001.out 0).trans rfl; have hcz15_1 : w13.cell? ⟨gb35001, 1, none⟩ = some (.slice A0_1 l0_1.length c0_1) := (blk_cell BK35001.out 1).trans rfl; have hcz15_2 : w13.cell? ⟨gb35001, 2, none⟩ = some (.slice A0_2 l0_2.length c0_2) := (blk_cell BK35001.out 2).trans rfl; have hfz15_0 := blk_frozen BK35001.out 0; have hfz15_1 := blk_frozen BK35001.out 1; have hfz15_2 := blk_frozen BK35001.out 2; have hcz16_0 : w13.cell? ⟨gb35002, 0, none⟩ = some (.int .i64 a1_0) := (blk_cell BK35002.out 0).trans rfl; have hcz16_1 : w13.cell? ⟨gb35002, 1, none⟩ = some (.slice A1_1 l1_1.length c1_1) := (blk_cell BK35002.out 1).trans rfl; have hcz16_2 : w13.cell? ⟨gb35002, 2, none⟩ = some (.slice A1_2 l1_2.length c1_2) := (blk_cell BK35002.out 2).trans rfl; have hfz16_0 := blk_frozen BK35002.out 0; have hfz16_1 := blk_frozen BK35002.out 1; have hfz16_2 := blk_frozen BK35002.out 2) | (go_at_call 66; (with_reducible refine (customsref33_SameInts.calls k _ _ l0_1 _ _ l1_1 false _ ?side1 ?side2 ?side3 ?side4 A4.out).mono ?_); (case side1 => repeat (first | exact (Kd.C_below HR0_1.out HB.out) | (with_reducible refine Kd.C_alloc ?_ _) | (with_reducible refine Kd.C_drewN ?_ _) | (with_reducible refine Kd.C_drew ?_))); (case side2 => exact HC0_1.out); (case side3 => repeat (first | exact (Kd.C_below HR1_1.out HB.out) | (with_reducible refine Kd.C_alloc ?_ _) | (with_reducible refine Kd.C_drewN ?_ _) | (with_reducible refine Kd.C_drew ?_))); (case side4 => exact HC1_1.out); rintro e w' ⟨rfl, ⟨nd, rfl⟩⟩))
      go_ret
      exact ⟨by first | rfl | (simp [errW_none, errW_some] <;> rfl) | (simp [*, errW_none, errW_some] <;> rfl), below_extB HB.out⟩
  · rw [if_neg c3] at H
    have c3b0 : (a0_0 == a1_0) = false := beq_eq_false_iff_ne.mpr c3
    have c3b1 : (a0_0 != a1_0) = true := bne_iff_ne.mpr c3
    obtain rfl := Option.some.inj H
    go_enter Try.func35, Try.ntmps35
    go_wp2_with (first | ((with_reducible refine gate_dst (N := 2) rfl ?_); refine box_event ?hg (N := 2) ?hd (cs := #[.int .i64 a0_0, .slice A0_1 l0_1.length c0_1, .slice A0_2 l0_2.length c0_2]) (t := 44) ?hr ?_; (case hd => rfl); (case hg => rfl); (case hr => first | (go_simp; done) | (go_simp; rfl)); intro gb35001 hg w17 hbox hb; have n1_ := Aside0.mk (hbox); have n2_ := Aside0.mk ((by rw [hg]; exact (below_size (below_ext HB.out)) : w.heap.size ≤ gb35001)); have n3_ := Aside0.mk ((by rw [hg]; exact (below_size (below_ext HB.out)) : w.heap.size ≤ gb35001)); have BK35001 := n1_; have GW35001 := n2_; have GE35001 := n3_; have GI35001 := GE_.mk GE35001.out; replace HB := mvH HB hb; clear n1_ n2_ n3_; clear hb hbox hg) | ((with_reducible refine gate_dst (N := 3) rfl ?_); refine box_event ?hg (N := 3) ?hd (cs := #[.int .i64 a1_0, .slice A1_1 l1_1.length c1_1, .slice A1_2 l1_2.length c1_2]) (t := 44) ?hr ?_; (case hd => rfl); (case hg => rfl); (case hr => first | (go_simp; done) | (go_simp; rfl)); intro gb35002 hg w18 hbox hb; have n2_ := Aside0.mk (hbox); have n3_ := Aside0.mk ((by rw [hg]; exact (below_size (below_extB HB.out)) : w.heap.size ≤ gb35002)); have n4_ := Aside0.mk ((by rw [hg]; exact (below_size (below_extB HB.out)) : w.heap.size ≤ gb35002)); have n5_ := Aside0.mk ((by rw [hg]; exact Nat.ne_of_lt (blk_lt (blk_ext BK35001.out)) : gb35001 ≠ gb35002)); have n6_ := Aside0.mk ((by rw [hg]; exact Nat.ne_of_gt (blk_lt (blk_ext BK35001.out)) : gb35002 ≠ gb35001)); have BK35002 := n2_; have GW35002 := n3_; have GE35002 := n4_; have GI35002 := GE_.mk GE35002.out; have NB35001_35002 := n5_; have NB35002_35001 := n6_; replace BK35001 := mvB BK35001 hb; replace HB := mvH HB hb; clear n2_ n3_ n4_ n5_ n6_; clear hb hbox hg; have hnb19 := NB35001_35002.out; have hnc19 := NB35002_35001.out; have hcz20_0 : w18.cell? ⟨gb35001, 0, none⟩ = some (.int .i64 a0_0) := (blk_cell BK35001.out 0).trans rfl; have hcz20_1 : w18.cell? ⟨gb35001, 1, none⟩ = some (.slice A0_1 l0_1.length c0_1) := (blk_cell BK35001.out 1).trans rfl; have hcz20_2 : w18.cell? ⟨gb35001, 2, none⟩ = some (.slice A0_2 l0_2.length c0_2) := (blk_cell BK35001.out 2).trans rfl; have hfz20_0 := blk_frozen BK35001.out 0; have hfz20_1 := blk_frozen BK35001.out 1; have hfz20_2 := blk_frozen BK35001.out 2; have hcz21_0 : w18.cell? ⟨gb35002, 0, none⟩ = some (.int .i64 a1_0) := (blk_cell BK35002.out 0).trans rfl; have hcz21_1 : w18.cell? ⟨gb35002, 1, none⟩ = some (.slice A1_1 l1_1.length c1_1) := (blk_cell BK35002.out 1).trans rfl; have hcz21_2 : w18.cell? ⟨gb35002, 2, none⟩ = some (.slice A1_2 l1_2.length c1_2) := (blk_cell BK35002.out 2).trans rfl; have hfz21_0 := blk_frozen BK35002.out 0; have hfz21_1 := blk_frozen BK35002.out 1; have hfz21_2 := blk_frozen BK35002.out 2))
    go_ret
    exact ⟨by first | rfl | (simp [errW_none, errW_some] <;> rfl) | (simp [*, errW_none, errW_some] <;> rfl), below_extB HB.out⟩

end Go.Proofs.Ytfljnggpnndmkaa.Z
