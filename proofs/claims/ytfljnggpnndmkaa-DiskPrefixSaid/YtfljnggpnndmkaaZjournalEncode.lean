/- Written by a program of this session: each Go function as a plain Lean function, and that the machine's call does what it says. Conditions: none but those each theorem states. -/
import Derived.Test.YtfljnggpnndmkaaZ0
import Derived.Test.YtfljnggpnndmkaaZjournalknown
import Derived.Test.YtfljnggpnndmkaaZjournalsum
namespace Go.Proofs.Ytfljnggpnndmkaa.Z
open Go.RowKit Go.Proofs.YtfljnggpnndmkaaW.PrintWords Go.Proofs.YtfljnggpnndmkaaW.PrintLast Go.Proofs.YtfljnggpnndmkaaW.PrintMore
attribute [local go_sem] max2_int min2_int max_two min_two max_three min_three max_four min_four   -- for this text's walks alone
set_option linter.unusedVariables false
set_option linter.unusedSimpArgs false

/-! ### journal_Encode: function 51 -/
def journal_Encode.f (k : Nat) (a0_0 : Int) (l0_1 : List Int) : Option (List Int × Int) := (journal_known.f a0_0).bind fun t51002 => (if t51002 = true then (if (l0_1.length : Int) > 60000 then (some (([] : List Int), 8)) else ((some (([((l0_1.length : Int) / 256) % 256, ((l0_1.length : Int)) % 256, ((wrap64 (65535 - (l0_1.length : Int))) / 256) % 256, (wrap64 (65535 - (l0_1.length : Int))) % 256, (a0_0) % 256] : List Int) : List Int)).bind fun y51003 => (if y51003.length + l0_1.length < 140737488355328 then ((some (y51003 ++ l0_1 : List Int)).bind fun y51006 => ((journal_sum.f k y51006).bind fun t51009 => (if y51006.length + t51009.length < 140737488355328 then (some ((y51006 ++ t51009), 0)) else (none)))) else (none)))) else (some (([] : List Int), 2)))
theorem journal_Encode.mono : ∀ a0 a1 k, LeO (journal_Encode.f k a0 a1) (journal_Encode.f (k + 1) a0 a1) := by
  intro a0 a1 k
  unfold journal_Encode.f
  repeat' first
      | (with_reducible exact journal_sum.mono _ _)
      | (with_reducible exact LeO.refl _)
      | (with_reducible exact LeO.none _)
      | (with_reducible refine LeO.ite ?_ ?_)
      | (with_reducible refine LeO.bind ?_ (fun _ => ?_))
      | exact journal_sum.mono _ _
      | exact LeO.none _
      | refine LeO.ite ?_ ?_
      | refine LeO.bind ?_ (fun _ => ?_)
set_option maxHeartbeats 8000000 in
set_option maxRecDepth 100000 in
theorem journal_Encode.calls (k : Nat) (a0_0 : Int) (A0_1 : Option Addr) (c0_1 : Nat) (l0_1 : List Int) (r1 : List Int) (r2 : Int) (w : World) (hr0_1 : Kd.C (Kd.int .u8) w A0_1 l0_1.length l0_1) (hc0_1 : l0_1.length ≤ c0_1) (h : journal_Encode.f k a0_0 l0_1 = some (r1, r2)) :
    Calls Try.prog 51 #[.agg #[.int .i64 a0_0, .slice A0_1 l0_1.length c0_1]] w fun e w' => ∃ v0_ : Value, e = .returned (.tuple #[v0_, .int .i64 r2]) ∧ Kd.R (Kd.int .u8) 5 w' w.heap.size (fun _ => True) v0_ r1 ∧ Below w.heap.size w w' := by
  have hu57 := Try.underlying57
  have HR0_1 := Aside0.mk hr0_1
  have HC0_1 := Aside0.mk hc0_1
  clear hr0_1 hc0_1
  have HB := Aside0.mk (Below.refl w.heap.size w)
  have H : ((journal_known.f a0_0).bind fun t51002 => (if t51002 = true then (if (l0_1.length : Int) > 60000 then (some (([] : List Int), 8)) else ((some (([((l0_1.length : Int) / 256) % 256, ((l0_1.length : Int)) % 256, ((wrap64 (65535 - (l0_1.length : Int))) / 256) % 256, (wrap64 (65535 - (l0_1.length : Int))) % 256, (a0_0) % 256] : List Int) : List Int)).bind fun y51003 => (if y51003.length + l0_1.length < 140737488355328 then ((some (y51003 ++ l0_1 : List Int)).bind fun y51006 => ((journal_sum.f k y51006).bind fun t51009 => (if y51006.length + t51009.length < 140737488355328 then (some ((y51006 ++ t51009), 0)) else (none)))) else (none)))) else (some (([] : List Int), 2)))) = some (r1, r2) := h
  clear h
  replace H := Option.bind_eq_some_iff.mp H
  obtain ⟨t51002, A20, H⟩ := H
  replace H : (if t51002 = true then (if (l0_1.length : Int) > 60000 then (some (([] : List Int), 8)) else ((some (([((l0_1.length : Int) / 256) % 256, ((l0_1.length : Int)) % 256, ((wrap64 (65535 - (l0_1.length : Int))) / 256) % 256, (wrap64 (65535 - (l0_1.length : Int))) % 256, (a0_0) % 256] : List Int) : List Int)).bind fun y51003 => (if y51003.length + l0_1.length < 140737488355328 then ((some (y51003 ++ l0_1 : List Int)).bind fun y51006 => ((journal_sum.f k y51006).bind fun t51009 => (if y51006.length + t51009.length < 140737488355328 then (some ((y51006 ++ t51009), 0)) else (none)))) else (none)))) else (some (([] : List Int), 2))) = some (r1, r2) := H
  have A2 := Aside0.mk A20
  clear A20
  by_cases c3 : t51002 = true
  · subst c3
    have H1 : (if (l0_1.length : Int) > 60000 then (some (([] : List Int), 8)) else ((some (([((l0_1.length : Int) / 256) % 256, ((l0_1.length : Int)) % 256, ((wrap64 (65535 - (l0_1.length : Int))) / 256) % 256, (wrap64 (65535 - (l0_1.length : Int))) % 256, (a0_0) % 256] : List Int) : List Int)).bind fun y51003 => (if y51003.length + l0_1.length < 140737488355328 then ((some (y51003 ++ l0_1 : List Int)).bind fun y51006 => ((journal_sum.f k y51006).bind fun t51009 => (if y51006.length + t51009.length < 140737488355328 then (some ((y51006 ++ t51009), 0)) else (none)))) else (none)))) = some (r1, r2) := by rw [if_pos rfl] at H; exact H
    clear H
    have H := H1
    clear H1
    by_cases c4 : (l0_1.length : Int) > 60000
    · rw [if_pos c4] at H
      have c4b0 : decide (60000 < (l0_1.length : Int)) = true := decide_eq_true c4
      have c4b1 : decide (60000 < l0_1.length) = true := decide_eq_true (by omega)
      clear c4
      simp only [Option.some.injEq, Prod.mk.injEq] at H
      obtain ⟨rfl, rfl⟩ := H
      go_enter Try.func51, Try.ntmps51
      go_wp2_with (first | ((with_reducible refine gate_dst (N := 1) rfl ?_); refine box_event ?hg (N := 1) ?hd (cs := #[.int .i64 a0_0, .slice A0_1 l0_1.length c0_1]) (t := 57) ?hr ?_; (case hd => rfl); (case hg => rfl); (case hr => first | (go_simp; done) | (go_simp; rfl)); intro gb51001 hg w5 hbox hb; have n1_ := Aside0.mk (hbox); have n2_ := Aside0.mk ((by rw [hg]; exact (below_size (below_ext HB.out)) : w.heap.size ≤ gb51001)); have n3_ := Aside0.mk ((by rw [hg]; exact (below_size (below_ext HB.out)) : w.heap.size ≤ gb51001)); have BK51001 := n1_; have GW51001 := n2_; have GE51001 := n3_; have GI51001 := GE_.mk GE51001.out; replace HB := mvH HB hb; clear n1_ n2_ n3_; clear hb hbox hg; have hcz6_0 : w5.cell? ⟨gb51001, 0, none⟩ = some (.int .i64 a0_0) := (blk_cell BK51001.out 0).trans rfl; have hcz6_1 : w5.cell? ⟨gb51001, 1, none⟩ = some (.slice A0_1 l0_1.length c0_1) := (blk_cell BK51001.out 1).trans rfl; have hfz6_0 := blk_frozen BK51001.out 0; have hfz6_1 := blk_frozen BK51001.out 1) | ((with_reducible refine gate_callee (f := 75) rfl ?_); refine goesL_ (some 10) rfl rfl Try.func75 (by kernel_rfl) rfl #[.int .i64 a0_0] rfl (by (try simp only [List.map_toArray, List.map_cons, List.map_nil]); first | done | rfl | (simp only [List.length_drop, List.length_take]; rfl)) ?_; (with_reducible refine (journal_known.calls a0_0 true _ A2.out).mono ?_); rintro e w' ⟨rfl, ⟨nd, rfl⟩⟩; refine ⟨_, rfl, ?_⟩))
      go_ret2
      exact ⟨_, by first | rfl | (simp [errW_none, errW_some] <;> rfl) | (simp [*, errW_none, errW_some] <;> rfl), by first | exact Kd.R_nil _ _ _ _ _ | exact Kd.N_nil _ _ _ _ _ | exact Kd.V_nil _ _ _ _ _ | exact Kd.Q_nil _ _ _ _ _ | exact Kd.S_nil _ _ _ _ _, below_extB HB.out⟩
    · rw [if_neg c4] at H
      have c4b0 : decide (60000 < (l0_1.length : Int)) = false := decide_eq_false c4
      have c4b1 : decide (60000 < l0_1.length) = false := decide_eq_false (by omega)
      clear c4
      obtain ⟨y51003, hy51003⟩ : ∃ y_ : List Int, y_ = (([((l0_1.length : Int) / 256) % 256, ((l0_1.length : Int)) % 256, ((wrap64 (65535 - (l0_1.length : Int))) / 256) % 256, (wrap64 (65535 - (l0_1.length : Int))) % 256, (a0_0) % 256] : List Int)) := ⟨_, rfl⟩
      replace H : (if y51003.length + l0_1.length < 140737488355328 then ((some (y51003 ++ l0_1 : List Int)).bind fun y51006 => ((journal_sum.f k y51006).bind fun t51009 => (if y51006.length + t51009.length < 140737488355328 then (some ((y51006 ++ t51009), 0)) else (none)))) else (none)) = some (r1, r2) := by first | (rw [hy51003]; with_reducible exact H) | (have H2_ := (Option.bind_some _ _).symm.trans H; rw [hy51003]; with_reducible exact H2_) | (have H2_ := (Option.bind_some _ _).symm.trans H; with_reducible exact H2_) | with_reducible exact H | (rw [hy51003]; exact H) | exact H
      have Ny51003 := Aside0.mk hy51003
      clear hy51003
      replace H := if_some H; obtain ⟨c7, H⟩ := H
      have LMc7 := Aside0.mk c7
      clear c7
      obtain ⟨y51006, hy51006⟩ : ∃ y_ : List Int, y_ = (y51003 ++ l0_1) := ⟨_, rfl⟩
      replace H : ((journal_sum.f k y51006).bind fun t51009 => (if y51006.length + t51009.length < 140737488355328 then (some ((y51006 ++ t51009), 0)) else (none))) = some (r1, r2) := by first | (rw [hy51006]; with_reducible exact H) | (have H2_ := (Option.bind_some _ _).symm.trans H; rw [hy51006]; with_reducible exact H2_) | (have H2_ := (Option.bind_some _ _).symm.trans H; with_reducible exact H2_) | with_reducible exact H | (rw [hy51006]; exact H) | exact H
      have Ny51006 := Aside0.mk hy51006
      clear hy51006
      replace H := Option.bind_eq_some_iff.mp H
      obtain ⟨t51009, A80, H⟩ := H
      replace H : (if y51006.length + t51009.length < 140737488355328 then (some ((y51006 ++ t51009), 0)) else (none)) = some (r1, r2) := H
      have A8 := Aside0.mk A80
      clear A80
      replace H := if_some H; obtain ⟨c9, H⟩ := H
      have LMc9 := Aside0.mk c9
      clear c9
      obtain ⟨y51012, hy51012⟩ : ∃ y_ : List Int, y_ = (y51006 ++ t51009) := ⟨_, rfl⟩
      replace H : (some (y51012, 0)) = some (r1, r2) := by first | (rw [hy51012]; with_reducible exact H) | (have H2_ := (Option.bind_some _ _).symm.trans H; rw [hy51012]; with_reducible exact H2_) | (have H2_ := (Option.bind_some _ _).symm.trans H; with_reducible exact H2_) | with_reducible exact H | (rw [hy51012]; exact H) | exact H
      have Ny51012 := Aside0.mk hy51012
      clear hy51012
      simp only [Option.some.injEq, Prod.mk.injEq] at H
      obtain ⟨rfl, rfl⟩ := H
      go_enter Try.func51, Try.ntmps51
      go_wp2_with (first | ((with_reducible refine gate_dst (N := 1) rfl ?_); refine box_event ?hg (N := 1) ?hd (cs := #[.int .i64 a0_0, .slice A0_1 l0_1.length c0_1]) (t := 57) ?hr ?_; (case hd => rfl); (case hg => rfl); (case hr => first | (go_simp; done) | (go_simp; rfl)); intro gb51001 hg w10 hbox hb; have n1_ := Aside0.mk (hbox); have n2_ := Aside0.mk ((by rw [hg]; exact (below_size (below_ext HB.out)) : w.heap.size ≤ gb51001)); have n3_ := Aside0.mk ((by rw [hg]; exact (below_size (below_ext HB.out)) : w.heap.size ≤ gb51001)); have BK51001 := n1_; have GW51001 := n2_; have GE51001 := n3_; have GI51001 := GE_.mk GE51001.out; replace HB := mvH HB hb; clear n1_ n2_ n3_; clear hb hbox hg; have hcz11_0 : w10.cell? ⟨gb51001, 0, none⟩ = some (.int .i64 a0_0) := (blk_cell BK51001.out 0).trans rfl; have hcz11_1 : w10.cell? ⟨gb51001, 1, none⟩ = some (.slice A0_1 l0_1.length c0_1) := (blk_cell BK51001.out 1).trans rfl; have hfz11_0 := blk_frozen BK51001.out 0; have hfz11_1 := blk_frozen BK51001.out 1) | ((with_reducible refine gate_callee (f := 75) rfl ?_); refine goesL_ (some 10) rfl rfl Try.func75 (by kernel_rfl) rfl #[.int .i64 a0_0] rfl (by (try simp only [List.map_toArray, List.map_cons, List.map_nil]); first | done | rfl | (simp only [List.length_drop, List.length_take]; rfl)) ?_; (with_reducible refine (journal_known.calls a0_0 true _ A2.out).mono ?_); rintro e w' ⟨rfl, ⟨nd, rfl⟩⟩; refine ⟨_, rfl, ?_⟩) | ((with_reducible refine gate_dst (N := 35) rfl ?_); refine Kd.R_lit (Kd.int .u8) _ 5 ?hg (N := 35) ?hd (xs := ([((l0_1.length : Int) / 256) % 256, ((l0_1.length : Int)) % 256, ((wrap64 (65535 - (l0_1.length : Int))) / 256) % 256, (wrap64 (65535 - (l0_1.length : Int))) % 256, (a0_0) % 256] : List Int)) (inner := [.int .u8 (((l0_1.length : Int) / 256) % 256), .int .u8 (((l0_1.length : Int)) % 256), .int .u8 (((wrap64 (65535 - (l0_1.length : Int))) / 256) % 256), .int .u8 ((wrap64 (65535 - (l0_1.length : Int))) % 256), .int .u8 ((a0_0) % 256)]) (ok := fun _ => True) (okp := fun _ => True) ?hr ?hp (fun _ hk => hk) trivial (Below.refl _ _) (Nat.le_refl _) (by simp) ?_; (case hd => rfl); (case hg => rfl); (case hr => first | (go_simp; done) | (go_simp; rfl)); (case hp => exact (Reps.one (show Kd.M (Kd.int .u8) _ _ _ (((l0_1.length : Int) / 256) % 256) [.int .u8 (((l0_1.length : Int) / 256) % 256)] from rfl) (Reps.one (show Kd.M (Kd.int .u8) _ _ _ (((l0_1.length : Int)) % 256) [.int .u8 (((l0_1.length : Int)) % 256)] from rfl) (Reps.one (show Kd.M (Kd.int .u8) _ _ _ (((wrap64 (65535 - (l0_1.length : Int))) / 256) % 256) [.int .u8 (((wrap64 (65535 - (l0_1.length : Int))) / 256) % 256)] from rfl) (Reps.one (show Kd.M (Kd.int .u8) _ _ _ ((wrap64 (65535 - (l0_1.length : Int))) % 256) [.int .u8 ((wrap64 (65535 - (l0_1.length : Int))) % 256)] from rfl) (Reps.one (show Kd.M (Kd.int .u8) _ _ _ ((a0_0) % 256) [.int .u8 ((a0_0) % 256)] from rfl) (Reps.none _ _))))))); intro v51004 w12 ho13 hb hg_ hnew_; clear hg_ hnew_; (first | rw [← Ny51003.out] at ho13 | (simp only [Int.reduceToNat] at ho13; rw [← Ny51003.out] at ho13)); have n0_ := Aside0.mk (Kd.R_lower ho13 (below_size (below_extB HB.out))); have HO51005 := n0_; replace BK51001 := mvB BK51001 hb; replace HB := mvH HB hb; clear n0_; clear hb ho13; have hcz14_0 : w12.cell? ⟨gb51001, 0, none⟩ = some (.int .i64 a0_0) := (blk_cell BK51001.out 0).trans rfl; have hcz14_1 : w12.cell? ⟨gb51001, 1, none⟩ = some (.slice A0_1 l0_1.length c0_1) := (blk_cell BK51001.out 1).trans rfl; have hfz14_0 := blk_frozen BK51001.out 0; have hfz14_1 := blk_frozen BK51001.out 1) | ((with_reducible refine gate_builtin (b := .append) (xs := #[.tmp 35, .tmp 37]) rfl ?_); at_builtin; refine Kd.R_append_rows (Kd.int .u8) (w0 := w) w.heap.size rfl (.tmp 35) (.tmp 37) 22 5 (.int .u8 0) 1 rfl Try.underlying22 info5 rfl (by decide) (by omega) v51004 y51003 l0_1 _ _ _ (fun _ => True) (fun _ => False) rfl rfl ?aO ?aR (fun _ _ h => h) (fun _ h => h.elim) ?aF ?aB ?aS ?aL ?_; (case aR => repeat (first | exact (Kd.C_below HR0_1.out HB.out) | (with_reducible refine Kd.C_alloc ?_ _) | (with_reducible refine Kd.C_drewN ?_ _) | (with_reducible refine Kd.C_drew ?_))); (case aB => exact (below_extB HB.out)); (case aF => exact (fun _ _ => trivial)); (case aO => exact (Kd.R_ext HO51005.out)); (case aS => exact (below_size (below_extB HB.out))); (case aL => have := LMc7.out; omega); intro v51007 w15 ho hb hg hat; rw [← Ny51006.out] at ho; have n0_ := Aside0.mk (blk_grown (g := gb51001) (o := .cells #[.int .i64 a0_0, .slice A0_1 l0_1.length c0_1] 57 (0, 0)) (blk_ext BK51001.out) hg (Kd.R_ne HO51005.out BK51001.out (by decide))); have n1_ := Aside0.mk (hb); have n2_ := Aside0.mk (ho); clear BK51001; clear HB; clear HO51005; have BK51001 := n0_; have HB := n1_; have HO51008 := n2_; clear n0_ n1_ n2_; clear ho hb hg hat; obtain ⟨Ao16, co16, eo16⟩ := Kd.R_slice HO51008.out; subst eo16) | ((with_reducible refine gate_callee (f := 76) rfl ?_); refine goesL_ (some 41) rfl rfl Try.func76 (by kernel_rfl) rfl #[.slice Ao16 y51006.length co16] rfl (by (try simp only [List.map_toArray, List.map_cons, List.map_nil]); first | done | rfl | (simp only [List.length_drop, List.length_take]; rfl)) ?_; (with_reducible refine (journal_sum.calls k _ _ y51006 t51009 _ ?side1 ?side2 A8.out).mono ?_); (case side1 => exact Kd.C_ext (Kd.R_reads' HO51008.out).2.2); (case side2 => exact (Kd.R_reads' HO51008.out).2.1); rintro e w17 ⟨v51010, rfl, ho0, hb⟩; refine ⟨_, rfl, ?_⟩; have n1_ := Aside0.mk (Kd.R_lower (Kd.R_new' ho0 (Kd.R_lt (Kd.R_ext HO51008.out))) (below_size (below_extB HB.out))); have HO51011 := n1_; replace HO51008 := apR HO51008 hb (Kd.R_base ho0); replace BK51001 := mvB BK51001 hb; replace HB := mvH HB hb; clear n1_; (try clear hb); (try clear hb2); (try clear hk); (try clear hi); (try clear ho0); obtain ⟨Ao19, co19, eo19⟩ := Kd.R_slice HO51011.out; subst eo19) | ((with_reducible refine gate_builtin (b := .append) (xs := #[.tmp 39, .tmp 41]) rfl ?_); at_builtin; refine Kd.R_append_rows (Kd.int .u8) (w0 := w) w.heap.size rfl (.tmp 39) (.tmp 41) 22 5 (.int .u8 0) 1 rfl Try.underlying22 info5 rfl (by decide) (by omega) (.slice Ao16 y51006.length co16) y51006 t51009 _ _ _ (fun k_ => some k_ ≠ (.slice Ao19 t51009.length co19 : Value).ownBlock) (fun _ => False) rfl rfl ?aO ?aR (fun _ _ h => h) (fun _ h => h.elim) ?aF ?aB ?aS ?aL ?_; (case aR => exact Kd.C_ext (Kd.R_reads' HO51011.out).2.2); (case aB => exact (below_extB HB.out)); (case aF => exact (fun k_ hk => Kd.fresh' (Kd.R_lt (Kd.R_ext HO51011.out)) k_ hk)); (case aO => exact (Kd.R_ext (Kd.R_mono HO51008.out (fun _ hk => hk.2)))); (case aS => exact (below_size (below_extB HB.out))); (case aL => have := LMc9.out; omega); intro v51013 w18 ho hb hg hat; rw [← Ny51012.out] at ho; have n0_ := Aside0.mk (blk_grown (g := gb51001) (o := .cells #[.int .i64 a0_0, .slice A0_1 l0_1.length c0_1] 57 (0, 0)) (blk_ext BK51001.out) hg (Kd.R_ne HO51008.out BK51001.out (by decide))); have n1_ := Aside0.mk (Kd.R_after (ok := (fun _ => True)) (Kd.R_ext HO51011.out) hg hat); have n2_ := Aside0.mk (hb); have n3_ := Aside0.mk (ho); clear BK51001; clear HO51011; clear HB; clear HO51008; have BK51001 := n0_; have HO51011 := n1_; have HB := n2_; have HO51014 := n3_; clear n0_ n1_ n2_ n3_; clear ho hb hg hat))
      go_ret2
      exact ⟨_, by first | rfl | (simp [errW_none, errW_some] <;> rfl) | (simp [*, errW_none, errW_some] <;> rfl), Kd.R_ext (Kd.R_mono HO51014.out (fun _ hk => trivial)), below_extB HB.out⟩
  · replace c3 := Bool.eq_false_iff.mpr c3
    subst c3
    have H1 : (some (([] : List Int), 2)) = some (r1, r2) := by rw [if_neg (show ¬ (false = true) by decide)] at H; exact H
    clear H
    have H := H1
    clear H1
    simp only [Option.some.injEq, Prod.mk.injEq] at H
    obtain ⟨rfl, rfl⟩ := H
    go_enter Try.func51, Try.ntmps51
    go_wp2_with (first | ((with_reducible refine gate_dst (N := 1) rfl ?_); refine box_event ?hg (N := 1) ?hd (cs := #[.int .i64 a0_0, .slice A0_1 l0_1.length c0_1]) (t := 57) ?hr ?_; (case hd => rfl); (case hg => rfl); (case hr => first | (go_simp; done) | (go_simp; rfl)); intro gb51001 hg w20 hbox hb; have n1_ := Aside0.mk (hbox); have n2_ := Aside0.mk ((by rw [hg]; exact (below_size (below_ext HB.out)) : w.heap.size ≤ gb51001)); have n3_ := Aside0.mk ((by rw [hg]; exact (below_size (below_ext HB.out)) : w.heap.size ≤ gb51001)); have BK51001 := n1_; have GW51001 := n2_; have GE51001 := n3_; have GI51001 := GE_.mk GE51001.out; replace HB := mvH HB hb; clear n1_ n2_ n3_; clear hb hbox hg; have hcz21_0 : w20.cell? ⟨gb51001, 0, none⟩ = some (.int .i64 a0_0) := (blk_cell BK51001.out 0).trans rfl; have hcz21_1 : w20.cell? ⟨gb51001, 1, none⟩ = some (.slice A0_1 l0_1.length c0_1) := (blk_cell BK51001.out 1).trans rfl; have hfz21_0 := blk_frozen BK51001.out 0; have hfz21_1 := blk_frozen BK51001.out 1) | ((with_reducible refine gate_callee (f := 75) rfl ?_); refine goesL_ (some 10) rfl rfl Try.func75 (by kernel_rfl) rfl #[.int .i64 a0_0] rfl (by (try simp only [List.map_toArray, List.map_cons, List.map_nil]); first | done | rfl | (simp only [List.length_drop, List.length_take]; rfl)) ?_; (with_reducible refine (journal_known.calls a0_0 false _ A2.out).mono ?_); rintro e w' ⟨rfl, ⟨nd, rfl⟩⟩; refine ⟨_, rfl, ?_⟩))
    go_ret2
    exact ⟨_, by first | rfl | (simp [errW_none, errW_some] <;> rfl) | (simp [*, errW_none, errW_some] <;> rfl), by first | exact Kd.R_nil _ _ _ _ _ | exact Kd.N_nil _ _ _ _ _ | exact Kd.V_nil _ _ _ _ _ | exact Kd.Q_nil _ _ _ _ _ | exact Kd.S_nil _ _ _ _ _, below_extB HB.out⟩

end Go.Proofs.Ytfljnggpnndmkaa.Z
