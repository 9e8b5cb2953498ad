/- Written by a program of this session: each Go function as a plain Lean function, and that the machine's call does what it says. Conditions: none but those each theorem states. -/
import Derived.Test.YtfljnggpnndmkaaZ0
import Derived.Test.YtfljnggpnndmkaaZcustomsref33Read
import Derived.Test.YtfljnggpnndmkaaZcustomsref33Truncate
import Derived.Test.YtfljnggpnndmkaaZcustomsref33Scan
namespace Go.Proofs.Ytfljnggpnndmkaa.Z
open Go.RowKit Go.Proofs.YtfljnggpnndmkaaW.PrintWords Go.Proofs.YtfljnggpnndmkaaW.PrintLast Go.Proofs.YtfljnggpnndmkaaW.PrintMore
attribute [local go_sem] max2_int min2_int max_two min_two max_three min_three max_four min_four   -- for this text's walks alone
set_option linter.unusedVariables false
set_option linter.unusedSimpArgs false

/-! ### customsref33_Open: function 62 -/
def customsref33_Open.l0 : Nat → List (S57) → List Int → Bool → List (List Int) → Int → List Int → List Int → Option (List Int × List Int × List Int × Bool × (List (List Int)))
  | 0, _, _, _, _, _, _, _ => none
  | k + 1, x6, x8, x9, x10, x11, x62002000, x62002001 => if x11 < (x6.length : Int) then (if 0 ≤ x11 then (if ((rd_T57 x6 x11).f0) = 2 then (customsref33_Open.l0 k x6 ((rd_T57 x6 x11).f1) true ([] : List (List Int)) (wrap64 (x11 + 1)) x62002000 x62002001) else (if x10.length < 5864062014805 then (customsref33_Open.l0 k x6 x8 x9 (x10 ++ [(rd_T57 x6 x11).f1]) (wrap64 (x11 + 1)) x62002000 x62002001) else (none))) else (none)) else (some (x62002000, x62002001, x8, x9, x10))
def customsref33_Open.f (k : Nat) (l0_0 : List Int) (l0_1 : List Int) : Option (List Int × List Int × List Int × Bool × (List (List Int))) := (customsref33_Read.f l0_0 l0_1).bind fun t62003 => ((customsref33_Scan.f k t62003).bind fun bt62006 => ((customsref33_Truncate.f l0_0 l0_1 bt62006.2).bind fun bt62010 => (customsref33_Open.l0 k bt62006.1 ([] : List Int) false ([] : List (List Int)) 0 bt62010.1 bt62010.2.1)))
theorem customsref33_Open.mono_l : ∀ k, (∀ y0 y1 y2 y3 y4 y5 y6, LeO (customsref33_Open.l0 k y0 y1 y2 y3 y4 y5 y6) (customsref33_Open.l0 (k + 1) y0 y1 y2 y3 y4 y5 y6))
  | 0 => fun _ _ _ _ _ _ _ r h => by simp [customsref33_Open.l0] at h
  | k + 1 => by
    have ih0 := customsref33_Open.mono_l k
    · intro y0 y1 y2 y3 y4 y5 y6
      unfold customsref33_Open.l0
      repeat' first
      | (with_reducible exact ih0 _ _ _ _ _ _ _)
      | (with_reducible exact customsref33_Scan.mono _ _)
      | (with_reducible exact LeO.refl _)
      | (with_reducible exact LeO.none _)
      | (with_reducible refine LeO.ite ?_ ?_)
      | (with_reducible refine LeO.bind ?_ (fun _ => ?_))
      | exact ih0 _ _ _ _ _ _ _
      | exact customsref33_Scan.mono _ _
      | exact LeO.none _
      | refine LeO.ite ?_ ?_
      | refine LeO.bind ?_ (fun _ => ?_)
theorem customsref33_Open.mono : ∀ a0 a1 k, LeO (customsref33_Open.f k a0 a1) (customsref33_Open.f (k + 1) a0 a1) := by
  intro a0 a1 k
  have ih0 := customsref33_Open.mono_l k
  unfold customsref33_Open.f
  repeat' first
      | (with_reducible exact ih0 _ _ _ _ _ _ _)
      | (with_reducible exact customsref33_Scan.mono _ _)
      | (with_reducible exact LeO.refl _)
      | (with_reducible exact LeO.none _)
      | (with_reducible refine LeO.ite ?_ ?_)
      | (with_reducible refine LeO.bind ?_ (fun _ => ?_))
      | exact ih0 _ _ _ _ _ _ _
      | exact customsref33_Scan.mono _ _
      | exact LeO.none _
      | refine LeO.ite ?_ ?_
      | refine LeO.bind ?_ (fun _ => ?_)
set_option maxHeartbeats 8000000 in
set_option maxRecDepth 100000 in
theorem customsref33_Open.calls (k : Nat) (A0_0 : Option Addr) (c0_0 : Nat) (l0_0 : List Int) (A0_1 : Option Addr) (c0_1 : Nat) (l0_1 : List Int) (r1 : List Int) (r2 : List Int) (r3 : List Int) (r4 : Bool) (r5 : List (List Int)) (w : World) (hr0_0 : Kd.C (Kd.int .u8) w A0_0 l0_0.length l0_0) (hc0_0 : l0_0.length ≤ c0_0) (hr0_1 : Kd.C (Kd.int .u8) w A0_1 l0_1.length l0_1) (hc0_1 : l0_1.length ≤ c0_1) (h : customsref33_Open.f k l0_0 l0_1 = some (r1, r2, r3, r4, r5)) :
    Calls Try.prog 62 #[.agg #[.slice A0_0 l0_0.length c0_0, .slice A0_1 l0_1.length c0_1]] w fun e w' => ∃ v0_ v1_ v2_ v4_ : Value, e = .returned (.tuple #[.agg #[v0_, v1_], v2_, .bool r4, v4_]) ∧ Kd.R (Kd.int .u8) 5 w' w.heap.size (fun k_ => (w.heap.size ≤ k_) ∧ some k_ ≠ (v1_ : Value).ownBlock) v0_ r1 ∧ Kd.R (Kd.int .u8) 5 w' w.heap.size (fun k_ => (w.heap.size ≤ k_) ∧ some k_ ≠ (v0_ : Value).ownBlock) v1_ r2 ∧ Kd.V (Kd.int .u8) 5 w' w.heap.size (fun k_ => (w.heap.size ≤ k_) ∧ some k_ ≠ (v0_ : Value).ownBlock ∧ some k_ ≠ (v1_ : Value).ownBlock ∧ some k_ ≠ (v4_ : Value).ownBlock) v2_ r3 ∧ Kd.N (Kd.slice 5 (Kd.int .u8)) 22 w' w.heap.size (fun k_ => (w.heap.size ≤ k_) ∧ some k_ ≠ (v0_ : Value).ownBlock ∧ some k_ ≠ (v1_ : Value).ownBlock) v4_ r5 ∧ Below w.heap.size w w' := by
  have hu24 := Try.underlying24
  have HR0_0 := Aside0.mk hr0_0
  have HC0_0 := Aside0.mk hc0_0
  clear hr0_0 hc0_0
  have HR0_1 := Aside0.mk hr0_1
  have HC0_1 := Aside0.mk hc0_1
  clear hr0_1 hc0_1
  have HB := Aside0.mk (Below.refl w.heap.size w)
  have H : ((customsref33_Read.f l0_0 l0_1).bind fun t62003 => ((customsref33_Scan.f k t62003).bind fun bt62006 => ((customsref33_Truncate.f l0_0 l0_1 bt62006.2).bind fun bt62010 => (customsref33_Open.l0 k bt62006.1 ([] : List Int) false ([] : List (List Int)) 0 bt62010.1 bt62010.2.1)))) = some (r1, r2, r3, r4, r5) := h
  clear h
  replace H := Option.bind_eq_some_iff.mp H
  obtain ⟨t62003, A20, H⟩ := H
  replace H : ((customsref33_Scan.f k t62003).bind fun bt62006 => ((customsref33_Truncate.f l0_0 l0_1 bt62006.2).bind fun bt62010 => (customsref33_Open.l0 k bt62006.1 ([] : List Int) false ([] : List (List Int)) 0 bt62010.1 bt62010.2.1))) = some (r1, r2, r3, r4, r5) := H
  have A2 := Aside0.mk A20
  clear A20
  replace H := Option.bind_eq_some_iff.mp H
  obtain ⟨⟨t62006, t62007⟩, A30, H⟩ := H
  replace H : ((customsref33_Truncate.f l0_0 l0_1 t62007).bind fun bt62010 => (customsref33_Open.l0 k t62006 ([] : List Int) false ([] : List (List Int)) 0 bt62010.1 bt62010.2.1)) = some (r1, r2, r3, r4, r5) := H
  have A3 := Aside0.mk A30
  clear A30
  replace H := Option.bind_eq_some_iff.mp H
  obtain ⟨⟨t62010, t62013, t62016⟩, A40, H⟩ := H
  replace H : (customsref33_Open.l0 k t62006 ([] : List Int) false ([] : List (List Int)) 0 t62010 t62013) = some (r1, r2, r3, r4, r5) := H
  have A4 := Aside0.mk A40
  clear A40
  have H' := Aside0.mk H
  clear H
  go_enter Try.func62, Try.ntmps62
  go_wp2_with (first | ((with_reducible refine gate_dst (N := 1) rfl ?_); refine box_event ?hg (N := 1) ?hd (cs := #[.slice A0_0 l0_0.length c0_0, .slice A0_1 l0_1.length c0_1]) (t := 24) ?hr ?_; (case hd => rfl); (case hg => rfl); (case hr => first | (go_simp; done) | (go_simp; rfl)); intro gb62001 hg w5 hbox hb; have n0_ := Aside0.mk (below_step (below_ext HB.out) hb); have n1_ := Aside0.mk (hbox); have n2_ := Aside0.mk ((by rw [hg]; exact (below_size (below_ext HB.out)) : w.heap.size ≤ gb62001)); have n3_ := Aside0.mk ((by rw [hg]; exact (below_size (below_ext HB.out)) : w.heap.size ≤ gb62001)); clear HB; have HB := n0_; have BK62001 := n1_; have GW62001 := n2_; have GE62001 := n3_; have GI62001 := GE_.mk GE62001.out; clear n0_ n1_ n2_ n3_; clear hb hbox hg) | ((with_reducible refine gate_dst (N := 2) rfl ?_); refine box_event ?hg (N := 2) ?hd (cs := #[.slice none 0 0, .slice none 0 0]) (t := 24) ?hr ?_; (case hd => rfl); (case hg => rfl); (case hr => first | (go_simp; done) | (go_simp; rfl)); intro gb62002 hg w6 hbox hb; have n0_ := Aside0.mk (blk_below (blk_ext BK62001.out) hb); have n1_ := Aside0.mk (below_step (below_extB HB.out) hb); have n2_ := Aside0.mk (hbox); have n3_ := Aside0.mk ((by rw [hg]; exact (below_size (below_extB HB.out)) : w.heap.size ≤ gb62002)); have n4_ := Aside0.mk ((by rw [hg]; exact (below_size (below_extB HB.out)) : w.heap.size ≤ gb62002)); have n5_ := Aside0.mk ((by rw [hg]; exact Nat.ne_of_lt (blk_lt (blk_ext BK62001.out)) : gb62001 ≠ gb62002)); have n6_ := Aside0.mk ((by rw [hg]; exact Nat.ne_of_gt (blk_lt (blk_ext BK62001.out)) : gb62002 ≠ gb62001)); clear BK62001; clear HB; have BK62001 := n0_; have HB := n1_; have BK62002 := n2_; have GW62002 := n3_; have GE62002 := n4_; have GI62002 := GE_.mk GE62002.out; have NB62001_62002 := n5_; have NB62002_62001 := n6_; clear n0_ n1_ n2_ n3_ n4_ n5_ n6_; clear hb hbox hg; have hnb7 := NB62001_62002.out; have hnc7 := NB62002_62001.out; have hcz8_0 : w6.cell? ⟨gb62001, 0, none⟩ = some (.slice A0_0 l0_0.length c0_0) := (blk_cell BK62001.out 0).trans rfl; have hcz8_1 : w6.cell? ⟨gb62001, 1, none⟩ = some (.slice A0_1 l0_1.length c0_1) := (blk_cell BK62001.out 1).trans rfl; have hfz8_0 := blk_frozen BK62001.out 0; have hfz8_1 := blk_frozen BK62001.out 1) | ((with_reducible refine gate_callee (f := 23) rfl ?_); refine goesL_ (some 14) rfl rfl Try.func23 (by kernel_rfl) rfl #[.agg #[.slice A0_0 l0_0.length c0_0, .slice A0_1 l0_1.length c0_1]] rfl (by (try simp only [List.map_toArray, List.map_cons, List.map_nil]); first | done | rfl | (simp only [List.length_drop, List.length_take]; rfl)) ?_; (with_reducible refine (customsref33_Read.calls _ _ l0_0 _ _ l0_1 t62003 _ ?side1 ?side2 ?side3 ?side4 A2.out).mono ?_); (case side1 => repeat (first | exact (Kd.C_below HR0_0.out HB.out) | (with_reducible refine Kd.C_alloc ?_ _) | (with_reducible refine Kd.C_drewN ?_ _) | (with_reducible refine Kd.C_drew ?_))); (case side2 => exact HC0_0.out); (case side3 => repeat (first | exact (Kd.C_below HR0_1.out HB.out) | (with_reducible refine Kd.C_alloc ?_ _) | (with_reducible refine Kd.C_drewN ?_ _) | (with_reducible refine Kd.C_drew ?_))); (case side4 => exact HC0_1.out); rintro e w9 ⟨v62004, rfl, ho0, hb⟩; refine ⟨_, rfl, ?_⟩; have n0_ := Aside0.mk (Kd.R_lower (Kd.R_newM (M := fun k_ => (w.heap.size ≤ k_)) ho0 (below_size (below_extB HB.out)) (fun k_ h_ => h_)) (below_size (below_extB HB.out))); have n1_ := Aside0.mk (blk_below (blk_ext BK62001.out) hb); have n2_ := Aside0.mk (blk_below (blk_ext BK62002.out) hb); have n3_ := Aside0.mk (below_step (below_extB HB.out) hb); clear BK62001; clear BK62002; clear HB; have HO62005 := n0_; have BK62001 := n1_; have BK62002 := n2_; have HB := n3_; clear n0_ n1_ n2_ n3_; (try clear hb); (try clear hb2); (try clear hk); (try clear hi); (try clear ho0); obtain ⟨Ao10, co10, eo10⟩ := Kd.R_slice HO62005.out; subst eo10) | ((with_reducible refine gate_callee (f := 54) rfl ?_); refine goesL_ (some 15) rfl rfl Try.func54 (by kernel_rfl) rfl #[.slice Ao10 t62003.length co10] rfl (by (try simp only [List.map_toArray, List.map_cons, List.map_nil]); first | done | rfl | (simp only [List.length_drop, List.length_take]; rfl)) ?_; (with_reducible refine (customsref33_Scan.calls k _ _ t62003 t62006 t62007 _ ?side1 ?side2 A3.out).mono ?_); (case side1 => exact Kd.C_ext (Kd.R_reads' HO62005.out).2.2); (case side2 => exact (Kd.R_reads' HO62005.out).2.1); rintro e w11 ⟨v62008, rfl, ho0, hb⟩; refine ⟨_, rfl, ?_⟩; have n0_ := Aside0.mk (Kd.R_below (Kd.R_ext HO62005.out) hb); have n1_ := Aside0.mk (Kd.N_lower (Kd.N_mono (ok' := fun k_ => (w.heap.size ≤ k_) ∧ some k_ ≠ (.slice Ao10 t62003.length co10 : Value).ownBlock ∧ k_ ≠ gb62001 ∧ k_ ≠ gb62002) (Kd.S_N (Kd.S_bound ho0)) (fun k_ hk_ => ⟨(Nat.le_trans (below_size (below_extB HB.out)) hk_.2.1), (Kd.fresh' (Kd.R_lt (Kd.R_ext HO62005.out)) k_ hk_.2.1), (Kd.freshB (blk_ext BK62001.out) k_ hk_.2.1), (Kd.freshB (blk_ext BK62002.out) k_ hk_.2.1)⟩)) (below_size (below_extB HB.out))); have n2_ := Aside0.mk (blk_below (blk_ext BK62001.out) hb); have n3_ := Aside0.mk (blk_below (blk_ext BK62002.out) hb); have n4_ := Aside0.mk (below_step (below_extB HB.out) hb); clear HO62005; clear BK62001; clear BK62002; clear HB; have HO62005 := n0_; have HO62009 := n1_; have BK62001 := n2_; have BK62002 := n3_; have HB := n4_; clear n0_ n1_ n2_ n3_ n4_; (try clear hb); (try clear hb2); (try clear hk); (try clear hi); (try clear ho0); have hcz12_0 : w11.cell? ⟨gb62001, 0, none⟩ = some (.slice A0_0 l0_0.length c0_0) := (blk_cell BK62001.out 0).trans rfl; have hcz12_1 : w11.cell? ⟨gb62001, 1, none⟩ = some (.slice A0_1 l0_1.length c0_1) := (blk_cell BK62001.out 1).trans rfl; have hfz12_0 := blk_frozen BK62001.out 0; have hfz12_1 := blk_frozen BK62001.out 1) | ((with_reducible refine gate_callee (f := 29) rfl ?_); refine goesL_ (some 21) rfl rfl Try.func29 (by kernel_rfl) rfl #[.agg #[.slice A0_0 l0_0.length c0_0, .slice A0_1 l0_1.length c0_1], .int .i64 t62007] rfl (by (try simp only [List.map_toArray, List.map_cons, List.map_nil]); first | done | rfl | (simp only [List.length_drop, List.length_take]; rfl)) ?_; (with_reducible refine (customsref33_Truncate.calls _ _ l0_0 _ _ l0_1 t62007 t62010 t62013 t62016 _ ?side1 ?side2 ?side3 ?side4 A4.out).mono ?_); (case side1 => repeat (first | exact (Kd.C_below HR0_0.out HB.out) | (with_reducible refine Kd.C_alloc ?_ _) | (with_reducible refine Kd.C_drewN ?_ _) | (with_reducible refine Kd.C_drew ?_))); (case side2 => exact HC0_0.out); (case side3 => repeat (first | exact (Kd.C_below HR0_1.out HB.out) | (with_reducible refine Kd.C_alloc ?_ _) | (with_reducible refine Kd.C_drewN ?_ _) | (with_reducible refine Kd.C_drew ?_))); (case side4 => exact HC0_1.out); rintro e w13 ⟨v62011, v62014, rfl, ho0, ho1, hb⟩; refine ⟨_, rfl, ?_⟩; have n0_ := Aside0.mk (Kd.R_mono (Kd.R_told (Kd.R_told (Kd.R_old (Kd.R_ext HO62005.out) hb) (Kd.R_base ho0)) (Kd.R_base ho1)) (fun _ h_ => h_.1)); have n1_ := Aside0.mk (Kd.N_mono (Kd.N_told (Kd.N_told (Kd.N_old (Kd.N_ext HO62009.out) hb) (Kd.R_base ho0)) (Kd.R_base ho1)) (fun _ h_ => h_.1)); have n2_ := Aside0.mk (Kd.R_lower (Kd.R_new' (Kd.R_newM (M := fun k_ => (w.heap.size ≤ k_)) ho0 (below_size (below_extB HB.out)) (fun k_ h_ => h_)) (Kd.R_lt (Kd.R_ext HO62005.out))) (below_size (below_extB HB.out))); have n3_ := Aside0.mk (Kd.R_lower (Kd.R_new' (Kd.R_newM (M := fun k_ => (w.heap.size ≤ k_)) ho1 (below_size (below_extB HB.out)) (fun k_ h_ => h_)) (Kd.R_lt (Kd.R_ext HO62005.out))) (below_size (below_extB HB.out))); have n4_ := Aside0.mk (blk_below (blk_ext BK62001.out) hb); have n5_ := Aside0.mk (blk_below (blk_ext BK62002.out) hb); have n6_ := Aside0.mk (below_step (below_extB HB.out) hb); clear HO62005; clear HO62009; clear BK62001; clear BK62002; clear HB; have HO62005 := n0_; have HO62009 := n1_; have HO62012 := n2_; have HO62015 := n3_; have BK62001 := n4_; have BK62002 := n5_; have HB := n6_; clear n0_ n1_ n2_ n3_ n4_ n5_ n6_; (try clear hb); (try clear hb2); (try clear hk); (try clear hi); (try clear ho0); (try clear ho1); obtain ⟨Ao14, co14, eo14⟩ := Kd.R_slice HO62012.out; subst eo14; have hcz15_0 : w13.cell? ⟨gb62001, 0, none⟩ = some (.slice A0_0 l0_0.length c0_0) := (blk_cell BK62001.out 0).trans rfl; have hcz15_1 : w13.cell? ⟨gb62001, 1, none⟩ = some (.slice A0_1 l0_1.length c0_1) := (blk_cell BK62001.out 1).trans rfl; have hfz15_0 := blk_frozen BK62001.out 0; have hfz15_1 := blk_frozen BK62001.out 1; obtain ⟨Ao16, co16, eo16⟩ := Kd.R_slice HO62015.out; subst eo16))
  go_loopg [8, 9, 10, 11] k (fun kq v8 v9 v10 v11 w' => ∃ (x8_1 : List Int) (x9_1 : Bool) (x10_1 : List (List Int)) (x11_1 : Int), v9 = .bool x9_1 ∧ v11 = .int .i64 x11_1 ∧ Aside0 (customsref33_Open.l0 kq t62006 x8_1 x9_1 x10_1 x11_1 t62010 t62013 = some (r1, r2, r3, r4, r5)) ∧ Aside0 (kq ≤ k) ∧ Aside0 (Kd.N k57 57 w' w.heap.size (fun k_ => (w.heap.size ≤ k_) ∧ some k_ ≠ (v10 : Value).ownBlock ∧ some k_ ≠ ((.slice Ao14 t62010.length co14) : Value).ownBlock ∧ some k_ ≠ ((.slice Ao16 t62013.length co16) : Value).ownBlock ∧ k_ ≠ gb62001 ∧ k_ ≠ gb62002) v62008 t62006) ∧ Aside0 (Kd.V (Kd.int .u8) 5 w' w.heap.size (fun k_ => (w.heap.size ≤ k_) ∧ some k_ ≠ (v62008 : Value).ownBlock ∧ some k_ ≠ (v10 : Value).ownBlock ∧ some k_ ≠ ((.slice Ao14 t62010.length co14) : Value).ownBlock ∧ some k_ ≠ ((.slice Ao16 t62013.length co16) : Value).ownBlock ∧ k_ ≠ gb62001 ∧ k_ ≠ gb62002) v8 x8_1) ∧ Aside0 (Kd.N (Kd.slice 5 (Kd.int .u8)) 22 w' w.heap.size (fun k_ => (w.heap.size ≤ k_) ∧ some k_ ≠ (v62008 : Value).ownBlock ∧ some k_ ≠ ((.slice Ao14 t62010.length co14) : Value).ownBlock ∧ some k_ ≠ ((.slice Ao16 t62013.length co16) : Value).ownBlock ∧ k_ ≠ gb62001 ∧ k_ ≠ gb62002) v10 x10_1) ∧ Aside0 (Kd.R (Kd.int .u8) 5 w' w.heap.size (fun k_ => (w.heap.size ≤ k_) ∧ some k_ ≠ ((.slice Ao16 t62013.length co16) : Value).ownBlock) (.slice Ao14 t62010.length co14) t62010) ∧ Aside0 (Kd.R (Kd.int .u8) 5 w' w.heap.size (fun k_ => (w.heap.size ≤ k_) ∧ some k_ ≠ ((.slice Ao14 t62010.length co14) : Value).ownBlock) (.slice Ao16 t62013.length co16) t62013) ∧ Aside0 (w'.heap[gb62001]? = some (.cells #[(.slice Ao14 t62010.length co14), (.slice Ao16 t62013.length co16)] 24 (0, 0))) ∧ Aside0 (w'.heap[gb62002]? = some (.cells #[(.slice none 0 0), (.slice none 0 0)] 24 (0, 0))) ∧ Aside0 (Below w.heap.size w w'))
  case atStart => exact ⟨(([] : List Int)), (false), (([] : List (List Int))), (0), (by first | rfl | (simp; done) | (simp [*]; done)), (by first | rfl | (simp; done) | (simp [*]; done)), H', ⟨Nat.le_refl _⟩, ⟨Kd.N_ext (Kd.N_mono (Kd.N_far (p := ⟨gb62001, 1, none⟩) (Kd.N_far (p := ⟨gb62001, 0, none⟩) (Kd.N_mono HO62009.out (fun k_ hk => (⟨hk, hk.1.1.2.2.1⟩ : _ ∧ k_ ≠ gb62001))) (fun _ hk => hk.2) (.slice Ao14 t62010.length co14)) (fun _ hk => hk.2) (.slice Ao16 t62013.length co16)) (fun _ hk => ⟨hk.1.1.1.1, ⟨(by simp [Value.ownBlock]), ⟨hk.1.1.2, ⟨hk.1.2, ⟨hk.1.1.1.2.2.1, hk.1.1.1.2.2.2⟩⟩⟩⟩⟩))⟩, ⟨Kd.V_nil _ _ _ _ _⟩, ⟨by first | exact Kd.S_nil _ _ _ _ _ | exact Kd.N_nil _ _ _ _ _ | exact Kd.V_nil _ _ _ _ _ | exact Kd.Q_nil _ _ _ _ _ | exact Kd.R_nil _ _ _ _ _⟩, ⟨Kd.R_ext (Kd.R_mono (Kd.R_far (p := ⟨gb62001, 1, none⟩) (Kd.R_far (p := ⟨gb62001, 0, none⟩) (Kd.R_types HO62012.out BK62001.out (by decide)) (fun _ hk => hk.2) (.slice Ao14 t62010.length co14)) (fun _ hk => hk.2) (.slice Ao16 t62013.length co16)) (fun _ hk => ⟨hk.1.1.1, hk.1.1.2⟩))⟩, ⟨Kd.R_ext (Kd.R_mono (Kd.R_far (p := ⟨gb62001, 1, none⟩) (Kd.R_far (p := ⟨gb62001, 0, none⟩) (Kd.R_types HO62015.out BK62001.out (by decide)) (fun _ hk => hk.2) (.slice Ao14 t62010.length co14)) (fun _ hk => hk.2) (.slice Ao16 t62013.length co16)) (fun _ hk => ⟨hk.1.1.1, hk.1.1.2⟩))⟩, ⟨by (with_reducible repeat (first | refine blk_drewN ?_ _ | refine blk_drew ?_ | refine blk_alloc ?_ _)); refine blk_put (cs := #[.slice Ao14 t62010.length co14, .slice A0_1 l0_1.length c0_1]) ?_ 1 _ rfl; (with_reducible repeat (first | refine blk_drewN ?_ _ | refine blk_drew ?_ | refine blk_alloc ?_ _)); refine blk_put (cs := #[.slice A0_0 l0_0.length c0_0, .slice A0_1 l0_1.length c0_1]) ?_ 0 _ rfl; exact blk_ext BK62001.out⟩, ⟨by (with_reducible repeat (first | refine blk_drewN ?_ _ | refine blk_drew ?_ | refine blk_alloc ?_ _)); refine blk_far ?_ NB62002_62001.out _; (with_reducible repeat (first | refine blk_drewN ?_ _ | refine blk_drew ?_ | refine blk_alloc ?_ _)); refine blk_far ?_ NB62002_62001.out _; exact blk_ext BK62002.out⟩, ⟨below_extB HB.out⟩⟩
  case round =>
    clear H'
    try clear c2
    try clear p2
    try clear c5
    try clear c6
    try clear c7
    try clear hcz12_0
    try clear hcz12_1
    try clear hcz15_0
    try clear hcz15_1
    try clear hcz8_0
    try clear hcz8_1
    try clear hfz12_0
    try clear hfz12_1
    try clear hfz15_0
    try clear hfz15_1
    try clear hfz8_0
    try clear hfz8_1
    obtain ⟨x8_1, x9_1, x10_1, x11_1, rfl, rfl, HA, HK1, HO_6, HO_8, HO_10, HO_62002000, HO_62002001, BK62001, BK62002, HB⟩ := hrel
    cases gk with
    | zero => exact absurd HA.out (by simp [customsref33_Open.l0])
    | succ k1 =>
      have H := HA.out
      clear HA
      simp only [customsref33_Open.l0] at H
      by_cases c17 : x11_1 < (t62006.length : Int)
      · rw [if_pos c17] at H
        have c17b0 : decide (x11_1 < (t62006.length : Int)) = true := decide_eq_true c17
        clear c17
        replace H := if_some H; obtain ⟨c18, H⟩ := H
        have c18b0 : decide (0 ≤ x11_1) = true := decide_eq_true c18
        clear c18
        by_cases c19 : ((rd_T57 t62006 x11_1).f0) = 2
        · rw [if_pos c19] at H
          have c19b0 : (((rd_T57 t62006 x11_1).f0) == 2) = true := beq_iff_eq.mpr c19
          have c19b1 : (((rd_T57 t62006 x11_1).f0) != 2) = false := bne_eq_false_iff_eq.mpr c19
          clear c19
          have H' := Aside0.mk H
          clear H
          obtain ⟨Ao20, co20, eo20⟩ := Kd.N_slice HO_6.out
          subst eo20
          have p62017 : 0 ≤ (x11_1 : Int) := of_decide_eq_true (by first | (with_reducible assumption) | assumption)
          have q62017 : x11_1 < (t62006.length : Int) := of_decide_eq_true (by first | (with_reducible assumption) | assumption)
          obtain ⟨ad62017, A62017_1, c62017_1, e62017, hx62017_0, hx62017_1, hl62017_1, hi62017_1⟩ := at_T57 (Kd.N_reads' HO_6.out).2.2 x11_1 p62017 q62017
          cases e62017
          obtain ⟨ce62017, hce62017, hMe62017, hcc62017⟩ := Kd.N_get HO_6.out z57 x11_1 p62017 (by first | exact q62017 | exact of_decide_eq_true (by first | (with_reducible assumption) | assumption) | (have e_ := (Kd.N_reads' HO_6.out).1; omega))
          obtain ⟨ua62017_1, uc62017_1, rfl, ul62017_1, ge62017_1⟩ := k57_openF hMe62017
          have hv62017_1 := hcc62017 1 _ rfl
          rw [add_field _ _ 1 (by omega)] at hv62017_1
          replace hv62017_1 := Option.some.inj (hv62017_1.symm.trans hx62017_1)
          injection hv62017_1 with hva_ hvn_ hvc_
          rw [hva_] at ge62017_1
          rw [hvc_] at ul62017_1
          have HL62017_1 := Aside0.mk (show Kd.V (Kd.int .u8) 5 _ w.heap.size _ _ ((rd_T57 t62006 x11_1).f1) from Kd.V_mk ul62017_1 ge62017_1)
          clear hva_ hvn_ hvc_ ge62017_1 ul62017_1
          clear hcc62017 hce62017
          have HR62017_1 := Aside0.mk hi62017_1
          have HC62017_1 := Aside0.mk hl62017_1
          clear hi62017_1 hl62017_1
          replace p62017 := eq_true p62017
          replace q62017 := eq_true q62017
          have p62018 : 0 ≤ (x11_1 : Int) := of_decide_eq_true (by first | (with_reducible assumption) | assumption)
          have q62018 : x11_1 < (t62006.length : Int) := of_decide_eq_true (by first | (with_reducible assumption) | assumption)
          obtain ⟨ad62018, A62018_1, c62018_1, e62018, hx62018_0, hx62018_1, hl62018_1, hi62018_1⟩ := at_T57 (Kd.N_reads' HO_6.out).2.2 x11_1 p62018 q62018
          obtain rfl : ad62017 = ad62018 := (by injection e62018)
          obtain ⟨ce62018, hce62018, hMe62018, hcc62018⟩ := Kd.N_get HO_6.out z57 x11_1 p62018 (by first | exact q62018 | exact of_decide_eq_true (by first | (with_reducible assumption) | assumption) | (have e_ := (Kd.N_reads' HO_6.out).1; omega))
          obtain ⟨ua62018_1, uc62018_1, rfl, ul62018_1, ge62018_1⟩ := k57_openF hMe62018
          have hv62018_1 := hcc62018 1 _ rfl
          rw [add_field _ _ 1 (by omega)] at hv62018_1
          replace hv62018_1 := Option.some.inj (hv62018_1.symm.trans hx62018_1)
          injection hv62018_1 with hva_ hvn_ hvc_
          rw [hva_] at ge62018_1
          rw [hvc_] at ul62018_1
          have HL62018_1 := Aside0.mk (show Kd.V (Kd.int .u8) 5 _ w.heap.size _ _ ((rd_T57 t62006 x11_1).f1) from Kd.V_mk ul62018_1 ge62018_1)
          clear hva_ hvn_ hvc_ ge62018_1 ul62018_1
          clear hcc62018 hce62018
          have HR62018_1 := Aside0.mk hi62018_1
          have HC62018_1 := Aside0.mk hl62018_1
          clear hi62018_1 hl62018_1
          replace p62018 := eq_true p62018
          replace q62018 := eq_true q62018
          have ea_ := Option.some.inj (hx62017_1.symm.trans hx62018_1)
          injection ea_ with ea_ en_ ec_
          subst ea_
          subst ec_
          clear en_
          go_wp2
          go_roundg k1
          case measure => have := HK1.out; omega
          case rel => exact ⟨((rd_T57 t62006 x11_1).f1), (true), (([] : List (List Int))), (wrap64 (x11_1 + 1)), (by first | rfl | (simp; done) | (simp [*]; done)), (by first | rfl | (simp; done) | (simp [*]; done)), H', ⟨by have := HK1.out; omega⟩, ⟨Kd.N_ext (Kd.N_mono HO_6.out (fun _ hk => ⟨hk.1, ⟨(by simp [Value.ownBlock]), ⟨hk.2.2.1, ⟨hk.2.2.2.1, ⟨hk.2.2.2.2.1, hk.2.2.2.2.2⟩⟩⟩⟩⟩))⟩, ⟨Kd.V_ext (Kd.V_mono HL62018_1.out (fun _ hk => ⟨hk.1.1, ⟨hk.2, ⟨(by simp [Value.ownBlock]), ⟨hk.1.2.2.1, ⟨hk.1.2.2.2.1, ⟨hk.1.2.2.2.2.1, hk.1.2.2.2.2.2⟩⟩⟩⟩⟩⟩))⟩, ⟨by first | exact Kd.S_nil _ _ _ _ _ | exact Kd.N_nil _ _ _ _ _ | exact Kd.V_nil _ _ _ _ _ | exact Kd.Q_nil _ _ _ _ _ | exact Kd.R_nil _ _ _ _ _⟩, ⟨Kd.R_ext HO_62002000.out⟩, ⟨Kd.R_ext HO_62002001.out⟩, ⟨blk_ext BK62001.out⟩, ⟨blk_ext BK62002.out⟩, ⟨below_extB HB.out⟩⟩
        · rw [if_neg c19] at H
          have c19b0 : (((rd_T57 t62006 x11_1).f0) == 2) = false := beq_eq_false_iff_ne.mpr c19
          have c19b1 : (((rd_T57 t62006 x11_1).f0) != 2) = true := bne_iff_ne.mpr c19
          replace H := if_some H; obtain ⟨c21, H⟩ := H
          have LMc21 := Aside0.mk c21
          clear c21
          obtain ⟨y62020, hy62020⟩ : ∃ y_ : List (List Int), y_ = (x10_1 ++ [(rd_T57 t62006 x11_1).f1]) := ⟨_, rfl⟩
          replace H : (customsref33_Open.l0 k1 t62006 x8_1 x9_1 y62020 (wrap64 (x11_1 + 1)) t62010 t62013) = some (r1, r2, r3, r4, r5) := by first | (rw [hy62020]; with_reducible exact H) | (have H2_ := (Option.bind_some _ _).symm.trans H; rw [hy62020]; with_reducible exact H2_) | (have H2_ := (Option.bind_some _ _).symm.trans H; with_reducible exact H2_) | with_reducible exact H | (rw [hy62020]; exact H) | exact H
          have Ny62020 := Aside0.mk hy62020
          clear hy62020
          have H' := Aside0.mk H
          clear H
          obtain ⟨Ao22, co22, eo22⟩ := Kd.N_slice HO_6.out
          subst eo22
          have p62017 : 0 ≤ (x11_1 : Int) := of_decide_eq_true (by first | (with_reducible assumption) | assumption)
          have q62017 : x11_1 < (t62006.length : Int) := of_decide_eq_true (by first | (with_reducible assumption) | assumption)
          obtain ⟨ad62017, A62017_1, c62017_1, e62017, hx62017_0, hx62017_1, hl62017_1, hi62017_1⟩ := at_T57 (Kd.N_reads' HO_6.out).2.2 x11_1 p62017 q62017
          cases e62017
          obtain ⟨ce62017, hce62017, hMe62017, hcc62017⟩ := Kd.N_get HO_6.out z57 x11_1 p62017 (by first | exact q62017 | exact of_decide_eq_true (by first | (with_reducible assumption) | assumption) | (have e_ := (Kd.N_reads' HO_6.out).1; omega))
          obtain ⟨ua62017_1, uc62017_1, rfl, ul62017_1, ge62017_1⟩ := k57_openF hMe62017
          have hv62017_1 := hcc62017 1 _ rfl
          rw [add_field _ _ 1 (by omega)] at hv62017_1
          replace hv62017_1 := Option.some.inj (hv62017_1.symm.trans hx62017_1)
          injection hv62017_1 with hva_ hvn_ hvc_
          rw [hva_] at ge62017_1
          rw [hvc_] at ul62017_1
          have HL62017_1 := Aside0.mk (show Kd.V (Kd.int .u8) 5 _ w.heap.size _ _ ((rd_T57 t62006 x11_1).f1) from Kd.V_mk ul62017_1 ge62017_1)
          clear hva_ hvn_ hvc_ ge62017_1 ul62017_1
          clear hcc62017 hce62017
          have HR62017_1 := Aside0.mk hi62017_1
          have HC62017_1 := Aside0.mk hl62017_1
          clear hi62017_1 hl62017_1
          replace p62017 := eq_true p62017
          replace q62017 := eq_true q62017
          have p62019 : 0 ≤ (x11_1 : Int) := of_decide_eq_true (by first | (with_reducible assumption) | assumption)
          have q62019 : x11_1 < (t62006.length : Int) := of_decide_eq_true (by first | (with_reducible assumption) | assumption)
          obtain ⟨ad62019, A62019_1, c62019_1, e62019, hx62019_0, hx62019_1, hl62019_1, hi62019_1⟩ := at_T57 (Kd.N_reads' HO_6.out).2.2 x11_1 p62019 q62019
          obtain rfl : ad62017 = ad62019 := (by injection e62019)
          obtain ⟨ce62019, hce62019, hMe62019, hcc62019⟩ := Kd.N_get HO_6.out z57 x11_1 p62019 (by first | exact q62019 | exact of_decide_eq_true (by first | (with_reducible assumption) | assumption) | (have e_ := (Kd.N_reads' HO_6.out).1; omega))
          obtain ⟨ua62019_1, uc62019_1, rfl, ul62019_1, ge62019_1⟩ := k57_openF hMe62019
          have hv62019_1 := hcc62019 1 _ rfl
          rw [add_field _ _ 1 (by omega)] at hv62019_1
          replace hv62019_1 := Option.some.inj (hv62019_1.symm.trans hx62019_1)
          injection hv62019_1 with hva_ hvn_ hvc_
          rw [hva_] at ge62019_1
          rw [hvc_] at ul62019_1
          have HL62019_1 := Aside0.mk (show Kd.V (Kd.int .u8) 5 _ w.heap.size _ _ ((rd_T57 t62006 x11_1).f1) from Kd.V_mk ul62019_1 ge62019_1)
          clear hva_ hvn_ hvc_ ge62019_1 ul62019_1
          clear hcc62019 hce62019
          have HR62019_1 := Aside0.mk hi62019_1
          have HC62019_1 := Aside0.mk hl62019_1
          clear hi62019_1 hl62019_1
          replace p62019 := eq_true p62019
          replace q62019 := eq_true q62019
          have ea_ := Option.some.inj (hx62017_1.symm.trans hx62019_1)
          injection ea_ with ea_ en_ ec_
          subst ea_
          subst ec_
          clear en_
          go_wp2_with (first | ((with_reducible refine gate_builtin (b := .append) (xs := #[.tmp 41, .tmp 47]) rfl ?_); at_builtin; refine Kd.N_append (Kd.slice 5 (Kd.int .u8)) (w0 := w) w.heap.size rfl (.tmp 41) (.tmp 47) 34 22 (.slice none 0 0) 24 rfl Try.underlying34 info22 rfl (by decide) (by omega) u10 x10_1 ((rd_T57 t62006 x11_1).f1) [.slice A62017_1 ((rd_T57 t62006 x11_1).f1).length c62017_1] (fun k_ => (w.heap.size ≤ k_) ∧ some k_ ≠ (.slice (some ad62017) t62006.length co22 : Value).ownBlock ∧ some k_ ≠ (.slice Ao14 t62010.length co14 : Value).ownBlock ∧ some k_ ≠ (.slice Ao16 t62013.length co16 : Value).ownBlock ∧ k_ ≠ gb62001 ∧ k_ ≠ gb62002) (fun k_ => ((fun k_ => (w.heap.size ≤ k_) ∧ some k_ ≠ (.slice (some ad62017) t62006.length co22 : Value).ownBlock ∧ some k_ ≠ (.slice Ao14 t62010.length co14 : Value).ownBlock ∧ some k_ ≠ (.slice Ao16 t62013.length co16 : Value).ownBlock ∧ k_ ≠ gb62001 ∧ k_ ≠ gb62002)) k_ ∧ some k_ ≠ (u10 : Value).ownBlock) rfl rfl ?aP (fun _ hk => hk) ?aF ?aO ?aB ?aS ?aL ?_; (case aP => exact (Kd.FK_slice_mk (Kd.V_reads' (Kd.V_mono (ok' := (fun k_ => ((fun k_ => (w.heap.size ≤ k_) ∧ some k_ ≠ (.slice (some ad62017) t62006.length co22 : Value).ownBlock ∧ some k_ ≠ (.slice Ao14 t62010.length co14 : Value).ownBlock ∧ some k_ ≠ (.slice Ao16 t62013.length co16 : Value).ownBlock ∧ k_ ≠ gb62001 ∧ k_ ≠ gb62002)) k_ ∧ some k_ ≠ (u10 : Value).ownBlock)) (HL62019_1.out) (fun k_ hk => ⟨⟨hk.1.1, ⟨hk.2, ⟨hk.1.2.2.1, ⟨hk.1.2.2.2.1, ⟨hk.1.2.2.2.2.1, hk.1.2.2.2.2.2⟩⟩⟩⟩⟩, hk.1.2.1⟩))).2.1 (Kd.V_F (Kd.V_mono (ok' := (fun k_ => ((fun k_ => (w.heap.size ≤ k_) ∧ some k_ ≠ (.slice (some ad62017) t62006.length co22 : Value).ownBlock ∧ some k_ ≠ (.slice Ao14 t62010.length co14 : Value).ownBlock ∧ some k_ ≠ (.slice Ao16 t62013.length co16 : Value).ownBlock ∧ k_ ≠ gb62001 ∧ k_ ≠ gb62002)) k_ ∧ some k_ ≠ (u10 : Value).ownBlock)) (HL62019_1.out) (fun k_ hk => ⟨⟨hk.1.1, ⟨hk.2, ⟨hk.1.2.2.1, ⟨hk.1.2.2.2.1, ⟨hk.1.2.2.2.2.1, hk.1.2.2.2.2.2⟩⟩⟩⟩⟩, hk.1.2.1⟩))))); (case aB => exact (below_extB HB.out)); (case aF => exact (fun k_ hk => ⟨(Nat.le_trans (below_size (below_extB HB.out)) hk), Kd.fresh' (Kd.N_lt (Kd.N_ext HO_6.out)) k_ hk, Kd.fresh' (Kd.R_lt (Kd.R_ext HO_62002000.out)) k_ hk, Kd.fresh' (Kd.R_lt (Kd.R_ext HO_62002001.out)) k_ hk, Kd.freshB (g := gb62001) (o := .cells #[.slice Ao14 t62010.length co14, .slice Ao16 t62013.length co16] 24 (0, 0)) (blk_ext BK62001.out) k_ hk, Kd.freshB (g := gb62002) (o := .cells #[.slice none 0 0, .slice none 0 0] 24 (0, 0)) (blk_ext BK62002.out) k_ hk⟩)); (case aO => exact (Kd.N_ext HO_10.out)); (case aS => exact (below_size (below_extB HB.out))); (case aL => have := LMc21.out; omega); intro v62021 w23 ho hb hg hat; rw [← Ny62020.out] at ho; have n0_ := Aside0.mk (Kd.N_afterv (ok := (fun k_ => (w.heap.size ≤ k_) ∧ some k_ ≠ (.slice Ao14 t62010.length co14 : Value).ownBlock ∧ some k_ ≠ (.slice Ao16 t62013.length co16 : Value).ownBlock ∧ k_ ≠ gb62001 ∧ k_ ≠ gb62002)) (Kd.N_ext (Kd.N_mono HO_6.out (fun _ hk => ⟨⟨hk.1, ⟨hk.2.2.1, ⟨hk.2.2.2.1, ⟨hk.2.2.2.2.1, hk.2.2.2.2.2⟩⟩⟩⟩, hk.2.1⟩))) hg hat); have n1_ := Aside0.mk (Kd.V_afterv (ok := (fun k_ => (w.heap.size ≤ k_) ∧ some k_ ≠ (.slice (some ad62017) t62006.length co22 : Value).ownBlock ∧ some k_ ≠ (.slice Ao14 t62010.length co14 : Value).ownBlock ∧ some k_ ≠ (.slice Ao16 t62013.length co16 : Value).ownBlock ∧ k_ ≠ gb62001 ∧ k_ ≠ gb62002)) (Kd.V_ext (Kd.V_mono HO_8.out (fun _ hk => ⟨⟨hk.1, ⟨hk.2.1, ⟨hk.2.2.2.1, ⟨hk.2.2.2.2.1, ⟨hk.2.2.2.2.2.1, hk.2.2.2.2.2.2⟩⟩⟩⟩⟩, hk.2.2.1⟩))) hg hat); have n2_ := Aside0.mk (Kd.R_over' (Kd.R_ext HO_62002000.out) (Kd.N_typed (Kd.N_ext HO_10.out)) (by decide) hg); have n3_ := Aside0.mk (Kd.R_over' (Kd.R_ext HO_62002001.out) (Kd.N_typed (Kd.N_ext HO_10.out)) (by decide) hg); have n4_ := Aside0.mk (blk_grown (g := gb62001) (o := .cells #[.slice Ao14 t62010.length co14, .slice Ao16 t62013.length co16] 24 (0, 0)) (blk_ext BK62001.out) hg (Kd.N_ne HO_10.out BK62001.out (by decide))); have n5_ := Aside0.mk (blk_grown (g := gb62002) (o := .cells #[.slice none 0 0, .slice none 0 0] 24 (0, 0)) (blk_ext BK62002.out) hg (Kd.N_ne HO_10.out BK62002.out (by decide))); have n6_ := Aside0.mk (Kd.V_afterv (ok := (fun k_ => (w.heap.size ≤ k_) ∧ some k_ ≠ (.slice (some ad62017) t62006.length co22 : Value).ownBlock ∧ some k_ ≠ (.slice Ao14 t62010.length co14 : Value).ownBlock ∧ some k_ ≠ (.slice Ao16 t62013.length co16 : Value).ownBlock ∧ k_ ≠ gb62001 ∧ k_ ≠ gb62002)) (Kd.V_ext (Kd.V_mono HL62017_1.out (fun _ hk => ⟨⟨hk.1.1, ⟨hk.2, ⟨hk.1.2.2.1, ⟨hk.1.2.2.2.1, ⟨hk.1.2.2.2.2.1, hk.1.2.2.2.2.2⟩⟩⟩⟩⟩, hk.1.2.1⟩))) hg hat); have n7_ := Aside0.mk (Kd.V_afterv (ok := (fun k_ => (w.heap.size ≤ k_) ∧ some k_ ≠ (.slice (some ad62017) t62006.length co22 : Value).ownBlock ∧ some k_ ≠ (.slice Ao14 t62010.length co14 : Value).ownBlock ∧ some k_ ≠ (.slice Ao16 t62013.length co16 : Value).ownBlock ∧ k_ ≠ gb62001 ∧ k_ ≠ gb62002)) (Kd.V_ext (Kd.V_mono HL62019_1.out (fun _ hk => ⟨⟨hk.1.1, ⟨hk.2, ⟨hk.1.2.2.1, ⟨hk.1.2.2.2.1, ⟨hk.1.2.2.2.2.1, hk.1.2.2.2.2.2⟩⟩⟩⟩⟩, hk.1.2.1⟩))) hg hat); have n8_ := Aside0.mk (hb); have n9_ := Aside0.mk (ho); clear HO_6; clear HO_8; clear HO_62002000; clear HO_62002001; clear BK62001; clear BK62002; clear HL62017_1; clear HL62019_1; clear HB; clear HO_10; have HO_6 := n0_; have HO_8 := n1_; have HO_62002000 := n2_; have HO_62002001 := n3_; have BK62001 := n4_; have BK62002 := n5_; have HL62017_1 := n6_; have HL62019_1 := n7_; have HB := n8_; have HO62022 := n9_; clear n0_ n1_ n2_ n3_ n4_ n5_ n6_ n7_ n8_ n9_; clear ho hb hg hat))
          go_roundg k1
          case measure => have := HK1.out; omega
          case rel => exact ⟨(x8_1), (x9_1), (y62020), (wrap64 (x11_1 + 1)), (by first | rfl | (simp; done) | (simp [*]; done)), (by first | rfl | (simp; done) | (simp [*]; done)), H', ⟨by have := HK1.out; omega⟩, ⟨Kd.N_ext (Kd.N_mono HO_6.out (fun _ hk => ⟨hk.1.1, ⟨hk.2, ⟨hk.1.2.1, ⟨hk.1.2.2.1, ⟨hk.1.2.2.2.1, hk.1.2.2.2.2⟩⟩⟩⟩⟩))⟩, ⟨Kd.V_ext (Kd.V_mono HO_8.out (fun _ hk => ⟨hk.1.1, ⟨hk.1.2.1, ⟨hk.2, ⟨hk.1.2.2.1, ⟨hk.1.2.2.2.1, ⟨hk.1.2.2.2.2.1, hk.1.2.2.2.2.2⟩⟩⟩⟩⟩⟩))⟩, ⟨Kd.N_ext HO62022.out⟩, ⟨Kd.R_ext HO_62002000.out⟩, ⟨Kd.R_ext HO_62002001.out⟩, ⟨blk_ext BK62001.out⟩, ⟨blk_ext BK62002.out⟩, ⟨below_extB HB.out⟩⟩
      · rw [if_neg c17] at H
        have c17b0 : decide (x11_1 < (t62006.length : Int)) = false := decide_eq_false c17
        clear c17
        simp only [Option.some.injEq, Prod.mk.injEq] at H
        obtain ⟨rfl, rfl, rfl, rfl, rfl⟩ := H
        obtain ⟨Ao24, co24, eo24⟩ := Kd.N_slice HO_6.out
        subst eo24
        have hnb25 := NB62001_62002.out
        have hnc25 := NB62002_62001.out
        have hcz26_0 : wr.cell? ⟨gb62001, 0, none⟩ = some (.slice Ao14 t62010.length co14) := (blk_cell BK62001.out 0).trans rfl
        have hcz26_1 : wr.cell? ⟨gb62001, 1, none⟩ = some (.slice Ao16 t62013.length co16) := (blk_cell BK62001.out 1).trans rfl
        have hfz26_0 := blk_frozen BK62001.out 0
        have hfz26_1 := blk_frozen BK62001.out 1
        have hcz27_0 : wr.cell? ⟨gb62002, 0, none⟩ = some (.slice none 0 0) := (blk_cell BK62002.out 0).trans rfl
        have hcz27_1 : wr.cell? ⟨gb62002, 1, none⟩ = some (.slice none 0 0) := (blk_cell BK62002.out 1).trans rfl
        have hfz27_0 := blk_frozen BK62002.out 0
        have hfz27_1 := blk_frozen BK62002.out 1
        go_wp2
        refine bodyPost_ret (results_list (rs := [.cell 2 24, .tmp 3, .tmp 4, .tmp 5]) rfl (by simp) (.cell gb62002 24 #[.slice Ao14 t62010.length co14, .slice Ao16 t62013.length co16] (0, 0) _ rfl (by (with_reducible repeat (first | refine blk_drewN ?_ _ | refine blk_drew ?_ | refine blk_alloc ?_ _)); refine blk_put (cs := #[.slice Ao14 t62010.length co14, .slice none 0 0]) ?_ 1 _ rfl; (with_reducible repeat (first | refine blk_drewN ?_ _ | refine blk_drew ?_ | refine blk_alloc ?_ _)); refine blk_put (cs := #[.slice none 0 0, .slice none 0 0]) ?_ 0 _ rfl; exact blk_ext BK62002.out) Try.underlying24 rfl (by kernel_rfl) (.tmp (.tmp (.tmp .nil))))) rfl ?_
        exact ⟨_, _, _, _, by first | rfl | (simp [errW_none, errW_some] <;> rfl) | (simp [*, errW_none, errW_some] <;> rfl), Kd.R_ext (Kd.R_mono (Kd.R_far (p := ⟨gb62002, 1, none⟩) (Kd.R_far (p := ⟨gb62002, 0, none⟩) (Kd.R_types HO_62002000.out BK62002.out (by decide)) (fun _ hk => hk.2) (.slice Ao14 t62010.length co14)) (fun _ hk => hk.2) (.slice Ao16 t62013.length co16)) (fun _ hk => ⟨hk.1.1, hk.1.2⟩)), Kd.R_ext (Kd.R_mono (Kd.R_far (p := ⟨gb62002, 1, none⟩) (Kd.R_far (p := ⟨gb62002, 0, none⟩) (Kd.R_types HO_62002001.out BK62002.out (by decide)) (fun _ hk => hk.2) (.slice Ao14 t62010.length co14)) (fun _ hk => hk.2) (.slice Ao16 t62013.length co16)) (fun _ hk => ⟨hk.1.1, hk.1.2⟩)), Kd.V_ext (Kd.V_mono (Kd.V_far (p := ⟨gb62002, 1, none⟩) (Kd.V_far (p := ⟨gb62002, 0, none⟩) (Kd.V_mono HO_8.out (fun k_ hk => (⟨hk, hk.2.2.2.2.2.2⟩ : _ ∧ k_ ≠ gb62002))) (fun _ hk => hk.2) (.slice Ao14 t62010.length co14)) (fun _ hk => hk.2) (.slice Ao16 t62013.length co16)) (fun _ hk => ⟨hk.1.1, ⟨hk.1.2.2.2.1, ⟨hk.1.2.2.2.2.1, hk.1.2.2.1⟩⟩⟩)), Kd.N_ext (Kd.N_mono (Kd.N_far (p := ⟨gb62002, 1, none⟩) (Kd.N_far (p := ⟨gb62002, 0, none⟩) (Kd.N_mono HO_10.out (fun k_ hk => (⟨hk, hk.2.2.2.2.2⟩ : _ ∧ k_ ≠ gb62002))) (fun _ hk => hk.2) (.slice Ao14 t62010.length co14)) (fun _ hk => hk.2) (.slice Ao16 t62013.length co16)) (fun _ hk => ⟨hk.1.1, ⟨hk.1.2.2.1, hk.1.2.2.2.1⟩⟩)), below_extB HB.out⟩

end Go.Proofs.Ytfljnggpnndmkaa.Z
