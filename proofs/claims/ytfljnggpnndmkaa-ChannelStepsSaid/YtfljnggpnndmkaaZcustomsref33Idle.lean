/- Written by a program of this session: each Go function as a plain Lean function, and that the machine's call does what it says. Conditions: none but those each theorem states. -/
import Derived.Test.YtfljnggpnndmkaaZ0
namespace Go.Proofs.Ytfljnggpnndmkaa.Z
open Go.RowKit Go.Proofs.YtfljnggpnndmkaaW.PrintWords Go.Proofs.YtfljnggpnndmkaaW.PrintLast Go.Proofs.YtfljnggpnndmkaaW.PrintMore
attribute [local go_sem] max2_int min2_int max_two min_two max_three min_three max_four min_four   -- for this text's walks alone
set_option linter.unusedVariables false
set_option linter.unusedSimpArgs false

/-! ### customsref33_Idle: function 50 -/
def customsref33_Idle.f (a0_0 : Int) (l0_1 : List Int) (l0_2 : List Int) (a1 : Int) : Option (Bool) := if a0_0 = a1 then (if (l0_1.length : Int) = 0 then (some ((l0_2.length : Int) == 0)) else (some false)) else (some false)
set_option maxHeartbeats 8000000 in
set_option maxRecDepth 100000 in
theorem customsref33_Idle.calls (a0_0 : Int) (A0_1 : Option Addr) (c0_1 : Nat) (l0_1 : List Int) (A0_2 : Option Addr) (c0_2 : Nat) (l0_2 : List Int) (a1 : Int) (r : Bool) (w : World) (hr0_1 : Kd.C (Kd.int .i64) w A0_1 l0_1.length l0_1) (hc0_1 : l0_1.length ≤ c0_1) (hr0_2 : Kd.C (Kd.int .i64) w A0_2 l0_2.length l0_2) (hc0_2 : l0_2.length ≤ c0_2) (h : customsref33_Idle.f a0_0 l0_1 l0_2 a1 = some r) :
    Calls Try.prog 50 #[.agg #[.int .i64 a0_0, .slice A0_1 l0_1.length c0_1, .slice A0_2 l0_2.length c0_2], .int .i64 a1] w fun e w' => e = .returned (.bool r) ∧ Below w.heap.size w w' := by
  have hu44 := Try.underlying44
  have HR0_1 := Aside0.mk hr0_1
  have HC0_1 := Aside0.mk hc0_1
  clear hr0_1 hc0_1
  have HR0_2 := Aside0.mk hr0_2
  have HC0_2 := Aside0.mk hc0_2
  clear hr0_2 hc0_2
  have HB := Aside0.mk (Below.refl w.heap.size w)
  have H : (if a0_0 = a1 then (if (l0_1.length : Int) = 0 then (some ((l0_2.length : Int) == 0)) else (some false)) else (some false)) = some r := h
  clear h
  by_cases c3 : a0_0 = a1
  · rw [if_pos c3] at H
    have c3b0 : (a0_0 == a1) = true := beq_iff_eq.mpr c3
    have c3b1 : (a0_0 != a1) = false := bne_eq_false_iff_eq.mpr c3
    clear c3
    by_cases c4 : (l0_1.length : Int) = 0
    · rw [if_pos c4] at H
      have c4b0 : ((l0_1.length : Int) == 0) = true := beq_iff_eq.mpr c4
      have c4b1 : ((l0_1.length : Int) != 0) = false := bne_eq_false_iff_eq.mpr c4
      clear c4
      obtain rfl := Option.some.inj H
      go_enter Try.func50, Try.ntmps50
      go_wp2_with (first | ((with_reducible refine gate_dst (N := 2) rfl ?_); (try (refine gate_guard (by rfl) ?_; dsimp only)); refine box_event ?hg (N := 2) ?hd (cs := #[.int .i64 a0_0, .slice A0_1 l0_1.length c0_1, .slice A0_2 l0_2.length c0_2]) (t := 44) ?hr ?_; (case hd => rfl); (case hg => rfl); (case hr => first | (go_simp; done) | (go_simp; rfl)); intro gb50001 hg w5 hbox hb; have n1_ := Aside0.mk (hbox); have n2_ := Aside0.mk ((by rw [hg]; exact (below_size (below_ext HB.out)) : w.heap.size ≤ gb50001)); have n3_ := Aside0.mk ((by rw [hg]; exact (below_size (below_ext HB.out)) : w.heap.size ≤ gb50001)); have BK50001 := n1_; have GW50001 := n2_; have GE50001 := n3_; have GI50001 := GE_.mk GE50001.out; replace HB := mvH HB hb; clear n1_ n2_ n3_; clear hb hbox hg; have hcz6_0 : w5.cell? ⟨gb50001, 0, none⟩ = some (.int .i64 a0_0) := (blk_cell BK50001.out 0).trans rfl; have hcz6_1 : w5.cell? ⟨gb50001, 1, none⟩ = some (.slice A0_1 l0_1.length c0_1) := (blk_cell BK50001.out 1).trans rfl; have hcz6_2 : w5.cell? ⟨gb50001, 2, none⟩ = some (.slice A0_2 l0_2.length c0_2) := (blk_cell BK50001.out 2).trans rfl; have hfz6_0 := blk_frozen BK50001.out 0; have hfz6_1 := blk_frozen BK50001.out 1; have hfz6_2 := blk_frozen BK50001.out 2))
      go_ret
      exact ⟨by first | rfl | (simp [errW_none, errW_some] <;> rfl) | (simp [*, errW_none, errW_some] <;> rfl), below_extB HB.out⟩
    · rw [if_neg c4] at H
      have c4b0 : ((l0_1.length : Int) == 0) = false := beq_eq_false_iff_ne.mpr c4
      have c4b1 : ((l0_1.length : Int) != 0) = true := bne_iff_ne.mpr c4
      have c4b2 : ¬ (l0_1 = []) := fun h_ => c4 (by rw [h_]; rfl)
      obtain rfl := Option.some.inj H
      go_enter Try.func50, Try.ntmps50
      go_wp2_with (first | ((with_reducible refine gate_dst (N := 2) rfl ?_); (try (refine gate_guard (by rfl) ?_; dsimp only)); refine box_event ?hg (N := 2) ?hd (cs := #[.int .i64 a0_0, .slice A0_1 l0_1.length c0_1, .slice A0_2 l0_2.length c0_2]) (t := 44) ?hr ?_; (case hd => rfl); (case hg => rfl); (case hr => first | (go_simp; done) | (go_simp; rfl)); intro gb50001 hg w7 hbox hb; have n1_ := Aside0.mk (hbox); have n2_ := Aside0.mk ((by rw [hg]; exact (below_size (below_ext HB.out)) : w.heap.size ≤ gb50001)); have n3_ := Aside0.mk ((by rw [hg]; exact (below_size (below_ext HB.out)) : w.heap.size ≤ gb50001)); have BK50001 := n1_; have GW50001 := n2_; have GE50001 := n3_; have GI50001 := GE_.mk GE50001.out; replace HB := mvH HB hb; clear n1_ n2_ n3_; clear hb hbox hg; have hcz8_0 : w7.cell? ⟨gb50001, 0, none⟩ = some (.int .i64 a0_0) := (blk_cell BK50001.out 0).trans rfl; have hcz8_1 : w7.cell? ⟨gb50001, 1, none⟩ = some (.slice A0_1 l0_1.length c0_1) := (blk_cell BK50001.out 1).trans rfl; have hcz8_2 : w7.cell? ⟨gb50001, 2, none⟩ = some (.slice A0_2 l0_2.length c0_2) := (blk_cell BK50001.out 2).trans rfl; have hfz8_0 := blk_frozen BK50001.out 0; have hfz8_1 := blk_frozen BK50001.out 1; have hfz8_2 := blk_frozen BK50001.out 2))
      go_ret
      exact ⟨by first | rfl | (simp [errW_none, errW_some] <;> rfl) | (simp [*, errW_none, errW_some] <;> rfl), below_extB HB.out⟩
  · rw [if_neg c3] at H
    have c3b0 : (a0_0 == a1) = false := beq_eq_false_iff_ne.mpr c3
    have c3b1 : (a0_0 != a1) = true := bne_iff_ne.mpr c3
    obtain rfl := Option.some.inj H
    go_enter Try.func50, Try.ntmps50
    go_wp2_with (first | ((with_reducible refine gate_dst (N := 2) rfl ?_); (try (refine gate_guard (by rfl) ?_; dsimp only)); refine box_event ?hg (N := 2) ?hd (cs := #[.int .i64 a0_0, .slice A0_1 l0_1.length c0_1, .slice A0_2 l0_2.length c0_2]) (t := 44) ?hr ?_; (case hd => rfl); (case hg => rfl); (case hr => first | (go_simp; done) | (go_simp; rfl)); intro gb50001 hg w9 hbox hb; have n1_ := Aside0.mk (hbox); have n2_ := Aside0.mk ((by rw [hg]; exact (below_size (below_ext HB.out)) : w.heap.size ≤ gb50001)); have n3_ := Aside0.mk ((by rw [hg]; exact (below_size (below_ext HB.out)) : w.heap.size ≤ gb50001)); have BK50001 := n1_; have GW50001 := n2_; have GE50001 := n3_; have GI50001 := GE_.mk GE50001.out; replace HB := mvH HB hb; clear n1_ n2_ n3_; clear hb hbox hg; have hcz10_0 : w9.cell? ⟨gb50001, 0, none⟩ = some (.int .i64 a0_0) := (blk_cell BK50001.out 0).trans rfl; have hcz10_1 : w9.cell? ⟨gb50001, 1, none⟩ = some (.slice A0_1 l0_1.length c0_1) := (blk_cell BK50001.out 1).trans rfl; have hcz10_2 : w9.cell? ⟨gb50001, 2, none⟩ = some (.slice A0_2 l0_2.length c0_2) := (blk_cell BK50001.out 2).trans rfl; have hfz10_0 := blk_frozen BK50001.out 0; have hfz10_1 := blk_frozen BK50001.out 1; have hfz10_2 := blk_frozen BK50001.out 2))
    go_ret
    exact ⟨by first | rfl | (simp [errW_none, errW_some] <;> rfl) | (simp [*, errW_none, errW_some] <;> rfl), below_extB HB.out⟩

end Go.Proofs.Ytfljnggpnndmkaa.Z
