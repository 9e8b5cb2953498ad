/- Written by a program of this session: each Go function as a plain Lean function, and that the machine's call does what it says. Conditions: none but those each theorem states. -/
import Derived.Test.YtfljnggpnndmkaaZ0
import Derived.Test.YtfljnggpnndmkaaZcustomsref33Transmit
import Derived.Test.YtfljnggpnndmkaaZcustomsref33Deliver
import Derived.Test.YtfljnggpnndmkaaZcustomsref33Confirm
namespace Go.Proofs.Ytfljnggpnndmkaa.Z
open Go.RowKit Go.Proofs.YtfljnggpnndmkaaW.PrintWords Go.Proofs.YtfljnggpnndmkaaW.PrintLast Go.Proofs.YtfljnggpnndmkaaW.PrintMore
attribute [local go_sem] max2_int min2_int max_two min_two max_three min_three max_four min_four   -- for this text's walks alone
set_option linter.unusedVariables false
set_option linter.unusedSimpArgs false

/-! ### customsref33_Flush: function 34 -/
mutual
def customsref33_Flush.j0 : Nat → Int → Int → Bool → Int → List Int → List Int → Option (Int × List Int × List Int × Int × Int)
  | 0, _, _, _, _, _, _ => none
  | k + 1, x2, x9, x26, x34002000, x34002001, x34002002 => if x26 = true then (customsref33_Flush.j1 k x2 2 x34002000 x34002001 x34002002) else (customsref33_Flush.j1 k x2 x9 x34002000 x34002001 x34002002)
def customsref33_Flush.j1 : Nat → Int → Int → Int → List Int → List Int → Option (Int × List Int × List Int × Int × Int)
  | 0, _, _, _, _, _ => none
  | k + 1, x2, x9, x34002000, x34002001, x34002002 => if x9 = 0 then (customsref33_Flush.l0 k x2 x34002000 x34002001 x34002002) else (some (0, ([] : List Int), ([] : List Int), 0, x9))
def customsref33_Flush.l0 : Nat → Int → Int → List Int → List Int → Option (Int × List Int × List Int × Int × Int)
  | 0, _, _, _, _ => none
  | k + 1, x2, x34002000, x34002001, x34002002 => if (x34002001.length : Int) > 0 then ((customsref33_Deliver.f k x34002000 x34002001 x34002002 0 x2).bind fun bt34011 => (if bt34011.2.2.2.1 = (wrap64 (x2 + 1)) then (customsref33_Flush.l0 k bt34011.2.2.2.1 bt34011.1 bt34011.2.1 bt34011.2.2.1) else (customsref33_Flush.l0 k x2 bt34011.1 bt34011.2.1 bt34011.2.2.1))) else (customsref33_Flush.l1 k x2 x34002000 x34002001 x34002002)
def customsref33_Flush.l1 : Nat → Int → Int → List Int → List Int → Option (Int × List Int × List Int × Int × Int)
  | 0, _, _, _, _ => none
  | k + 1, x2, x34002000, x34002001, x34002002 => if (x34002002.length : Int) > 0 then ((customsref33_Confirm.f x34002000 x34002001 x34002002 0).bind fun bt34020 => (customsref33_Flush.l1 k x2 bt34020.1 bt34020.2.1 bt34020.2.2.1)) else (some (x34002000, x34002001, x34002002, x2, 0))
end
def customsref33_Flush.f (k : Nat) (a0_0 : Int) (l0_1 : List Int) (l0_2 : List Int) (a1 : Int) (a2 : Int) : Option (Int × List Int × List Int × Int × Int) := (customsref33_Transmit.f k a0_0 l0_1 l0_2 a1).bind fun bt34003 => (if bt34003.2.2.2 = 0 then (if a2 < 0 then (customsref33_Flush.j0 k a2 bt34003.2.2.2 true bt34003.1 bt34003.2.1 bt34003.2.2.1) else (customsref33_Flush.j0 k a2 bt34003.2.2.2 (decide (a2 > 999000)) bt34003.1 bt34003.2.1 bt34003.2.2.1)) else (customsref33_Flush.j0 k a2 bt34003.2.2.2 false bt34003.1 bt34003.2.1 bt34003.2.2.1))
theorem customsref33_Flush.mono_l : ∀ k, (∀ y0 y1 y2 y3 y4 y5, LeO (customsref33_Flush.j0 k y0 y1 y2 y3 y4 y5) (customsref33_Flush.j0 (k + 1) y0 y1 y2 y3 y4 y5)) ∧ (∀ y0 y1 y2 y3 y4, LeO (customsref33_Flush.j1 k y0 y1 y2 y3 y4) (customsref33_Flush.j1 (k + 1) y0 y1 y2 y3 y4)) ∧ (∀ y0 y1 y2 y3, LeO (customsref33_Flush.l0 k y0 y1 y2 y3) (customsref33_Flush.l0 (k + 1) y0 y1 y2 y3)) ∧ (∀ y0 y1 y2 y3, LeO (customsref33_Flush.l1 k y0 y1 y2 y3) (customsref33_Flush.l1 (k + 1) y0 y1 y2 y3))
  | 0 => ⟨fun _ _ _ _ _ _ r h => by simp [customsref33_Flush.j0] at h, fun _ _ _ _ _ r h => by simp [customsref33_Flush.j1] at h, fun _ _ _ _ r h => by simp [customsref33_Flush.l0] at h, fun _ _ _ _ r h => by simp [customsref33_Flush.l1] at h⟩
  | k + 1 => by
    obtain ⟨ih0, ih1, ih2, ih3⟩ := customsref33_Flush.mono_l k
    refine ⟨?_, ?_, ?_, ?_⟩
    · intro y0 y1 y2 y3 y4 y5
      unfold customsref33_Flush.j0
      repeat' first
      | (with_reducible exact ih0 _ _ _ _ _ _)
      | (with_reducible exact ih1 _ _ _ _ _)
      | (with_reducible exact ih2 _ _ _ _)
      | (with_reducible exact ih3 _ _ _ _)
      | (with_reducible exact customsref33_Deliver.mono _ _ _ _ _ _)
      | (with_reducible exact customsref33_Transmit.mono _ _ _ _ _)
      | (with_reducible exact LeO.refl _)
      | (with_reducible exact LeO.none _)
      | (with_reducible refine LeO.ite ?_ ?_)
      | (with_reducible refine LeO.bind ?_ (fun _ => ?_))
      | exact ih0 _ _ _ _ _ _
      | exact ih1 _ _ _ _ _
      | exact ih2 _ _ _ _
      | exact ih3 _ _ _ _
      | exact customsref33_Deliver.mono _ _ _ _ _ _
      | exact customsref33_Transmit.mono _ _ _ _ _
      | exact LeO.none _
      | refine LeO.ite ?_ ?_
      | refine LeO.bind ?_ (fun _ => ?_)
    · intro y0 y1 y2 y3 y4
      unfold customsref33_Flush.j1
      repeat' first
      | (with_reducible exact ih0 _ _ _ _ _ _)
      | (with_reducible exact ih1 _ _ _ _ _)
      | (with_reducible exact ih2 _ _ _ _)
      | (with_reducible exact ih3 _ _ _ _)
      | (with_reducible exact customsref33_Deliver.mono _ _ _ _ _ _)
      | (with_reducible exact customsref33_Transmit.mono _ _ _ _ _)
      | (with_reducible exact LeO.refl _)
      | (with_reducible exact LeO.none _)
      | (with_reducible refine LeO.ite ?_ ?_)
      | (with_reducible refine LeO.bind ?_ (fun _ => ?_))
      | exact ih0 _ _ _ _ _ _
      | exact ih1 _ _ _ _ _
      | exact ih2 _ _ _ _
      | exact ih3 _ _ _ _
      | exact customsref33_Deliver.mono _ _ _ _ _ _
      | exact customsref33_Transmit.mono _ _ _ _ _
      | exact LeO.none _
      | refine LeO.ite ?_ ?_
      | refine LeO.bind ?_ (fun _ => ?_)
    · intro y0 y1 y2 y3
      unfold customsref33_Flush.l0
      repeat' first
      | (with_reducible exact ih0 _ _ _ _ _ _)
      | (with_reducible exact ih1 _ _ _ _ _)
      | (with_reducible exact ih2 _ _ _ _)
      | (with_reducible exact ih3 _ _ _ _)
      | (with_reducible exact customsref33_Deliver.mono _ _ _ _ _ _)
      | (with_reducible exact customsref33_Transmit.mono _ _ _ _ _)
      | (with_reducible exact LeO.refl _)
      | (with_reducible exact LeO.none _)
      | (with_reducible refine LeO.ite ?_ ?_)
      | (with_reducible refine LeO.bind ?_ (fun _ => ?_))
      | exact ih0 _ _ _ _ _ _
      | exact ih1 _ _ _ _ _
      | exact ih2 _ _ _ _
      | exact ih3 _ _ _ _
      | exact customsref33_Deliver.mono _ _ _ _ _ _
      | exact customsref33_Transmit.mono _ _ _ _ _
      | exact LeO.none _
      | refine LeO.ite ?_ ?_
      | refine LeO.bind ?_ (fun _ => ?_)
    · intro y0 y1 y2 y3
      unfold customsref33_Flush.l1
      repeat' first
      | (with_reducible exact ih0 _ _ _ _ _ _)
      | (with_reducible exact ih1 _ _ _ _ _)
      | (with_reducible exact ih2 _ _ _ _)
      | (with_reducible exact ih3 _ _ _ _)
      | (with_reducible exact customsref33_Deliver.mono _ _ _ _ _ _)
      | (with_reducible exact customsref33_Transmit.mono _ _ _ _ _)
      | (with_reducible exact LeO.refl _)
      | (with_reducible exact LeO.none _)
      | (with_reducible refine LeO.ite ?_ ?_)
      | (with_reducible refine LeO.bind ?_ (fun _ => ?_))
      | exact ih0 _ _ _ _ _ _
      | exact ih1 _ _ _ _ _
      | exact ih2 _ _ _ _
      | exact ih3 _ _ _ _
      | exact customsref33_Deliver.mono _ _ _ _ _ _
      | exact customsref33_Transmit.mono _ _ _ _ _
      | exact LeO.none _
      | refine LeO.ite ?_ ?_
      | refine LeO.bind ?_ (fun _ => ?_)
theorem customsref33_Flush.mono : ∀ a0 a1 a2 a3 a4 k, LeO (customsref33_Flush.f k a0 a1 a2 a3 a4) (customsref33_Flush.f (k + 1) a0 a1 a2 a3 a4) := by
  intro a0 a1 a2 a3 a4 k
  obtain ⟨ih0, ih1, ih2, ih3⟩ := customsref33_Flush.mono_l k
  unfold customsref33_Flush.f
  repeat' first
      | (with_reducible exact ih0 _ _ _ _ _ _)
      | (with_reducible exact ih1 _ _ _ _ _)
      | (with_reducible exact ih2 _ _ _ _)
      | (with_reducible exact ih3 _ _ _ _)
      | (with_reducible exact customsref33_Deliver.mono _ _ _ _ _ _)
      | (with_reducible exact customsref33_Transmit.mono _ _ _ _ _)
      | (with_reducible exact LeO.refl _)
      | (with_reducible exact LeO.none _)
      | (with_reducible refine LeO.ite ?_ ?_)
      | (with_reducible refine LeO.bind ?_ (fun _ => ?_))
      | exact ih0 _ _ _ _ _ _
      | exact ih1 _ _ _ _ _
      | exact ih2 _ _ _ _
      | exact ih3 _ _ _ _
      | exact customsref33_Deliver.mono _ _ _ _ _ _
      | exact customsref33_Transmit.mono _ _ _ _ _
      | exact LeO.none _
      | refine LeO.ite ?_ ?_
      | refine LeO.bind ?_ (fun _ => ?_)
set_option maxHeartbeats 8000000 in
set_option maxRecDepth 100000 in
theorem customsref33_Flush.calls (k : Nat) (a0_0 : Int) (A0_1 : Option Addr) (c0_1 : Nat) (l0_1 : List Int) (P0_2_ : Nat → Prop) (A0_2 : Option Addr) (c0_2 : Nat) (l0_2 : List Int) (a1 : Int) (a2 : Int) (r1 : Int) (r2 : List Int) (r3 : List Int) (r4 : Int) (r5 : Int) (w : World) (hr0_1 : Kd.C (Kd.int .i64) w A0_1 l0_1.length l0_1) (hc0_1 : l0_1.length ≤ c0_1) (hs0_2 : Kd.V (Kd.int .i64) 3 w w.heap.size (fun k_ => P0_2_ k_) (.slice A0_2 l0_2.length c0_2) l0_2) (h : customsref33_Flush.f k a0_0 l0_1 l0_2 a1 a2 = some (r1, r2, r3, r4, r5)) :
    Calls Try.prog 34 #[.agg #[.int .i64 a0_0, .slice A0_1 l0_1.length c0_1, .slice A0_2 l0_2.length c0_2], .int .i64 a1, .int .i64 a2] w fun e w' => ∃ v1_ v2_ : Value, e = .returned (.tuple #[.agg #[.int .i64 r1, v1_, v2_], .int .i64 r4, .int .i64 r5]) ∧ Kd.V (Kd.int .i64) 3 w' w.heap.size (fun k_ => (P0_2_ k_ ∨ w.heap.size ≤ k_)) v1_ r2 ∧ Kd.V (Kd.int .i64) 3 w' w.heap.size (fun k_ => (P0_2_ k_ ∨ w.heap.size ≤ k_)) v2_ r3 ∧ Below w.heap.size w w' := by
  have hu44 := Try.underlying44
  have HR0_1 := Aside0.mk hr0_1
  have HC0_1 := Aside0.mk hc0_1
  clear hr0_1 hc0_1
  have HO0_2 := Aside0.mk (show Kd.V (Kd.int .i64) 3 w w.heap.size (fun k_ => (P0_2_ k_ ∨ w.heap.size ≤ k_)) (.slice A0_2 l0_2.length c0_2) l0_2 from Kd.V_mono hs0_2 (fun k_ hk => .inl hk))
  have HB := Aside0.mk (Below.refl w.heap.size w)
  have H : ((customsref33_Transmit.f k a0_0 l0_1 l0_2 a1).bind fun bt34003 => (if bt34003.2.2.2 = 0 then (if a2 < 0 then (customsref33_Flush.j0 k a2 bt34003.2.2.2 true bt34003.1 bt34003.2.1 bt34003.2.2.1) else (customsref33_Flush.j0 k a2 bt34003.2.2.2 (decide (a2 > 999000)) bt34003.1 bt34003.2.1 bt34003.2.2.1)) else (customsref33_Flush.j0 k a2 bt34003.2.2.2 false bt34003.1 bt34003.2.1 bt34003.2.2.1))) = some (r1, r2, r3, r4, r5) := h
  clear h
  replace H := Option.bind_eq_some_iff.mp H
  obtain ⟨⟨t34003, t34004, t34007, t34010⟩, A40, H⟩ := H
  replace H : (if t34010 = 0 then (if a2 < 0 then (customsref33_Flush.j0 k a2 t34010 true t34003 t34004 t34007) else (customsref33_Flush.j0 k a2 t34010 (decide (a2 > 999000)) t34003 t34004 t34007)) else (customsref33_Flush.j0 k a2 t34010 false t34003 t34004 t34007)) = some (r1, r2, r3, r4, r5) := H
  have A4 := Aside0.mk A40
  clear A40
  have HC5 := Aside0.mk H
  clear H
  go_enter Try.func34, Try.ntmps34
  go_upto_region 2 with (first | ((with_reducible refine gate_dst (N := 3) rfl ?_); refine box_event ?hg (N := 3) ?hd (cs := #[.int .i64 a0_0, .slice A0_1 l0_1.length c0_1, .slice A0_2 l0_2.length c0_2]) (t := 44) ?hr ?_; (case hd => rfl); (case hg => rfl); (case hr => first | (go_simp; done) | (go_simp; rfl)); intro gb34001 hg w6 hbox hb; have n2_ := Aside0.mk (hbox); have n3_ := Aside0.mk ((by rw [hg]; exact (below_size (below_ext HB.out)) : w.heap.size ≤ gb34001)); have n4_ := Aside0.mk ((by rw [hg]; exact (below_size (below_ext HB.out)) : w.heap.size ≤ gb34001)); have BK34001 := n2_; have GW34001 := n3_; have GE34001 := n4_; have GI34001 := GE_.mk GE34001.out; replace HO0_2 := awV HO0_2 hb gb34001 hg; replace HB := mvH HB hb; clear n2_ n3_ n4_; clear hb hbox hg) | ((with_reducible refine gate_dst (N := 6) rfl ?_); refine box_event ?hg (N := 6) ?hd (cs := #[.int .i64 0, .slice none 0 0, .slice none 0 0]) (t := 44) ?hr ?_; (case hd => rfl); (case hg => rfl); (case hr => first | (go_simp; done) | (go_simp; rfl)); intro gb34002 hg w7 hbox hb; have n3_ := Aside0.mk (hbox); have n4_ := Aside0.mk ((by rw [hg]; exact (below_size (below_extB HB.out)) : w.heap.size ≤ gb34002)); have n5_ := Aside0.mk ((by rw [hg]; exact (below_size (below_extB HB.out)) : w.heap.size ≤ gb34002)); have n6_ := Aside0.mk ((by rw [hg]; exact Nat.ne_of_lt (blk_lt (blk_ext BK34001.out)) : gb34001 ≠ gb34002)); have n7_ := Aside0.mk ((by rw [hg]; exact Nat.ne_of_gt (blk_lt (blk_ext BK34001.out)) : gb34002 ≠ gb34001)); have BK34002 := n3_; have GW34002 := n4_; have GE34002 := n5_; have GI34002 := GE_.mk GE34002.out; have NB34001_34002 := n6_; have NI34001_34002 := NE_.mk NB34001_34002.out; have NB34002_34001 := n7_; have NI34002_34001 := NE_.mk NB34002_34001.out; replace HO0_2 := awV HO0_2 hb gb34002 hg; replace BK34001 := mvB BK34001 hb; replace HB := mvH HB hb; clear n3_ n4_ n5_ n6_ n7_; clear hb hbox hg; have hnb8 := NB34001_34002.out; have hnc8 := NB34002_34001.out; have hcz9_0 : w7.cell? ⟨gb34001, 0, none⟩ = some (.int .i64 a0_0) := (blk_cell BK34001.out 0).trans rfl; have hcz9_1 : w7.cell? ⟨gb34001, 1, none⟩ = some (.slice A0_1 l0_1.length c0_1) := (blk_cell BK34001.out 1).trans rfl; have hcz9_2 : w7.cell? ⟨gb34001, 2, none⟩ = some (.slice A0_2 l0_2.length c0_2) := (blk_cell BK34001.out 2).trans rfl; have hfz9_0 := blk_frozen BK34001.out 0; have hfz9_1 := blk_frozen BK34001.out 1; have hfz9_2 := blk_frozen BK34001.out 2) | ((with_reducible refine gate_callee (f := 38) rfl ?_); refine goesL_ (some 14) rfl rfl Try.func38 (by kernel_rfl) rfl #[.agg #[.int .i64 a0_0, .slice A0_1 l0_1.length c0_1, .slice A0_2 l0_2.length c0_2], .int .i64 a1] rfl (by (try simp only [List.map_toArray, List.map_cons, List.map_nil]); first | done | rfl | (simp only [List.length_drop, List.length_take]; rfl)) ?_; (with_reducible refine (customsref33_Transmit.calls k a0_0 _ _ l0_1 (fun k_ => (((P0_2_ k_ ∨ w.heap.size ≤ k_) ∧ k_ ≠ gb34001) ∧ k_ ≠ gb34002)) _ _ l0_2 a1 t34003 t34004 t34007 t34010 _ ?side1 ?side2 ?side3 A4.out).mono ?_); (case side1 => repeat (first | exact (Kd.C_below HR0_1.out HB.out) | (with_reducible refine Kd.C_alloc ?_ _) | (with_reducible refine Kd.C_drewN ?_ _) | (with_reducible refine Kd.C_drew ?_))); (case side2 => exact HC0_1.out); (case side3 => exact HO0_2.out); rintro e w10 ⟨v34005, v34008, rfl, ho0, ho1, hb⟩; refine ⟨_, rfl, ?_⟩; have n1_ := Aside0.mk (Kd.R_lower (Kd.R_newM (M := fun k_ => (w.heap.size ≤ k_)) (Kd.R_mono (ok' := fun k_ => True) ho0 (fun _ hk_ => trivial)) (below_size (below_extB HB.out)) (fun k_ h_ => h_)) (below_size (below_extB HB.out))); have n2_ := Aside0.mk (Kd.V_lower (Kd.V_mono (ok' := fun k_ => (P0_2_ k_ ∨ w.heap.size ≤ k_) ∧ some k_ ≠ (v34005 : Value).ownBlock ∧ k_ ≠ gb34001 ∧ k_ ≠ gb34002) ho1 (fun k_ hk_ => ⟨Or.elim hk_.1 (fun hs_ => hs_.1.1) (fun hn_ => (.inr (Nat.le_trans (below_size (below_extB HB.out)) hn_))), hk_.2, Or.elim hk_.1 (fun hs_ => hs_.1.2) (fun hn_ => (Kd.freshB (blk_ext BK34001.out) k_ hn_)), Or.elim hk_.1 (fun hs_ => hs_.2) (fun hn_ => (Kd.freshB (blk_ext BK34002.out) k_ hn_))⟩)) (below_size (below_extB HB.out))); have HO34006 := n1_; have HO34009 := n2_; replace HO0_2 := apV HO0_2 hb (Kd.R_base ho0); replace BK34001 := mvB BK34001 hb; replace BK34002 := mvB BK34002 hb; replace HB := mvH HB hb; clear n1_ n2_; (try clear hb); (try clear hb2); (try clear hk); (try clear hi); (try clear ho0); (try clear ho1); have hcz11_0 : w10.cell? ⟨gb34001, 0, none⟩ = some (.int .i64 a0_0) := (blk_cell BK34001.out 0).trans rfl; have hcz11_1 : w10.cell? ⟨gb34001, 1, none⟩ = some (.slice A0_1 l0_1.length c0_1) := (blk_cell BK34001.out 1).trans rfl; have hcz11_2 : w10.cell? ⟨gb34001, 2, none⟩ = some (.slice A0_2 l0_2.length c0_2) := (blk_cell BK34001.out 2).trans rfl; have hfz11_0 := blk_frozen BK34001.out 0; have hfz11_1 := blk_frozen BK34001.out 1; have hfz11_2 := blk_frozen BK34001.out 2; obtain ⟨Ao12, co12, eo12⟩ := Kd.R_slice HO34006.out; subst eo12; obtain ⟨Ao13, co13, eo13⟩ := Kd.V_slice HO34009.out; subst eo13))
  (try simp only [Act.put, List.setIfInBounds_toArray, List.set_cons_zero, List.set_cons_succ])
  go_cut [26] (fun v26 wc => ∃ (kq : Nat) (x26_4 : Bool), v26 = .bool x26_4 ∧ Aside0 (customsref33_Flush.j0 kq a2 t34010 x26_4 t34003 t34004 t34007 = some (r1, r2, r3, r4, r5)) ∧ Aside0 (kq ≤ k) ∧ Aside0 (Kd.R (Kd.int .i64) 3 wc w.heap.size (fun k_ => (w.heap.size ≤ k_)) (.slice Ao12 t34004.length co12) t34004) ∧ Aside0 (Kd.V (Kd.int .i64) 3 wc w.heap.size (fun k_ => (P0_2_ k_ ∨ w.heap.size ≤ k_) ∧ some k_ ≠ ((.slice Ao12 t34004.length co12) : Value).ownBlock ∧ k_ ≠ gb34001 ∧ k_ ≠ gb34002) (.slice Ao13 t34007.length co13) t34007) ∧ Aside0 (wc.heap[gb34001]? = some (.cells #[.int .i64 t34003, (.slice Ao12 t34004.length co12), (.slice Ao13 t34007.length co13)] 44 (0, 0))) ∧ Aside0 (wc.heap[gb34002]? = some (.cells #[.int .i64 0, (.slice none 0 0), (.slice none 0 0)] 44 (0, 0))) ∧ Aside0 (Below w.heap.size w wc))
  case first =>
    have H := HC5.out
    clear HC5
    by_cases c14 : t34010 = 0
    · rw [if_pos c14] at H
      have c14b0 : (t34010 == 0) = true := beq_iff_eq.mpr c14
      have c14b1 : (t34010 != 0) = false := bne_eq_false_iff_eq.mpr c14
      clear c14
      (first | rw [c14b0] | (simp only [i64_w, i32_w]; rw [c14b0]) | skip)
      by_cases c15 : a2 < 0
      · rw [if_pos c15] at H
        have c15b0 : decide (a2 < 0) = true := decide_eq_true c15
        clear c15
        have H' := Aside0.mk H
        clear H
        go_wp2
        go_meet
        case rel => exact ⟨_, (true), (by first | rfl | (simp; done) | (simp [*]; done)), H', ⟨by first | omega | exact Nat.le_refl _⟩, ⟨Kd.R_ext (Kd.R_mono (Kd.R_far (p := ⟨gb34001, 2, none⟩) (Kd.R_far (p := ⟨gb34001, 1, none⟩) (Kd.R_far (p := ⟨gb34001, 0, none⟩) (Kd.R_types HO34006.out BK34001.out (by decide)) (fun _ hk => hk.2) (.int .i64 t34003)) (fun _ hk => hk.2) (.slice Ao12 t34004.length co12)) (fun _ hk => hk.2) (.slice Ao13 t34007.length co13)) (fun _ hk => hk.1.1))⟩, ⟨Kd.V_ext (Kd.V_mono (Kd.V_far (p := ⟨gb34001, 2, none⟩) (Kd.V_far (p := ⟨gb34001, 1, none⟩) (Kd.V_far (p := ⟨gb34001, 0, none⟩) (Kd.V_mono HO34009.out (fun k_ hk => (⟨hk, hk.2.2.1⟩ : _ ∧ k_ ≠ gb34001))) (fun _ hk => hk.2) (.int .i64 t34003)) (fun _ hk => hk.2) (.slice Ao12 t34004.length co12)) (fun _ hk => hk.2) (.slice Ao13 t34007.length co13)) (fun _ hk => ⟨hk.1.1, ⟨hk.1.2.1, ⟨hk.1.2.2.1, hk.1.2.2.2⟩⟩⟩))⟩, ⟨by (with_reducible repeat (first | refine blk_drewN ?_ _ | refine blk_drew ?_ | refine blk_alloc ?_ _)); refine blk_put (cs := #[.int .i64 t34003, .slice Ao12 t34004.length co12, .slice A0_2 l0_2.length c0_2]) ?_ 2 _ rfl; (with_reducible repeat (first | refine blk_drewN ?_ _ | refine blk_drew ?_ | refine blk_alloc ?_ _)); refine blk_put (cs := #[.int .i64 t34003, .slice A0_1 l0_1.length c0_1, .slice A0_2 l0_2.length c0_2]) ?_ 1 _ rfl; (with_reducible repeat (first | refine blk_drewN ?_ _ | refine blk_drew ?_ | refine blk_alloc ?_ _)); refine blk_put (cs := #[.int .i64 a0_0, .slice A0_1 l0_1.length c0_1, .slice A0_2 l0_2.length c0_2]) ?_ 0 _ rfl; exact blk_ext BK34001.out⟩, ⟨blk_extC BK34002.out⟩, ⟨below_extB HB.out⟩⟩
      · rw [if_neg c15] at H
        have c15b0 : decide (a2 < 0) = false := decide_eq_false c15
        clear c15
        have H' := Aside0.mk H
        clear H
        go_wp2
        go_meet
        case rel => exact ⟨_, (decide (a2 > 999000)), (by first | rfl | (simp; done) | (simp [*]; done)), H', ⟨by first | omega | exact Nat.le_refl _⟩, ⟨Kd.R_ext (Kd.R_mono (Kd.R_far (p := ⟨gb34001, 2, none⟩) (Kd.R_far (p := ⟨gb34001, 1, none⟩) (Kd.R_far (p := ⟨gb34001, 0, none⟩) (Kd.R_types HO34006.out BK34001.out (by decide)) (fun _ hk => hk.2) (.int .i64 t34003)) (fun _ hk => hk.2) (.slice Ao12 t34004.length co12)) (fun _ hk => hk.2) (.slice Ao13 t34007.length co13)) (fun _ hk => hk.1.1))⟩, ⟨Kd.V_ext (Kd.V_mono (Kd.V_far (p := ⟨gb34001, 2, none⟩) (Kd.V_far (p := ⟨gb34001, 1, none⟩) (Kd.V_far (p := ⟨gb34001, 0, none⟩) (Kd.V_mono HO34009.out (fun k_ hk => (⟨hk, hk.2.2.1⟩ : _ ∧ k_ ≠ gb34001))) (fun _ hk => hk.2) (.int .i64 t34003)) (fun _ hk => hk.2) (.slice Ao12 t34004.length co12)) (fun _ hk => hk.2) (.slice Ao13 t34007.length co13)) (fun _ hk => ⟨hk.1.1, ⟨hk.1.2.1, ⟨hk.1.2.2.1, hk.1.2.2.2⟩⟩⟩))⟩, ⟨by (with_reducible repeat (first | refine blk_drewN ?_ _ | refine blk_drew ?_ | refine blk_alloc ?_ _)); refine blk_put (cs := #[.int .i64 t34003, .slice Ao12 t34004.length co12, .slice A0_2 l0_2.length c0_2]) ?_ 2 _ rfl; (with_reducible repeat (first | refine blk_drewN ?_ _ | refine blk_drew ?_ | refine blk_alloc ?_ _)); refine blk_put (cs := #[.int .i64 t34003, .slice A0_1 l0_1.length c0_1, .slice A0_2 l0_2.length c0_2]) ?_ 1 _ rfl; (with_reducible repeat (first | refine blk_drewN ?_ _ | refine blk_drew ?_ | refine blk_alloc ?_ _)); refine blk_put (cs := #[.int .i64 a0_0, .slice A0_1 l0_1.length c0_1, .slice A0_2 l0_2.length c0_2]) ?_ 0 _ rfl; exact blk_ext BK34001.out⟩, ⟨blk_extC BK34002.out⟩, ⟨below_extB HB.out⟩⟩
    · rw [if_neg c14] at H
      have c14b0 : (t34010 == 0) = false := beq_eq_false_iff_ne.mpr c14
      have c14b1 : (t34010 != 0) = true := bne_iff_ne.mpr c14
      (first | rw [c14b0] | (simp only [i64_w, i32_w]; rw [c14b0]) | skip)
      have H' := Aside0.mk H
      clear H
      go_wp2
      go_meet
      case rel => exact ⟨_, (false), (by first | rfl | (simp; done) | (simp [*]; done)), H', ⟨by first | omega | exact Nat.le_refl _⟩, ⟨Kd.R_ext (Kd.R_mono (Kd.R_far (p := ⟨gb34001, 2, none⟩) (Kd.R_far (p := ⟨gb34001, 1, none⟩) (Kd.R_far (p := ⟨gb34001, 0, none⟩) (Kd.R_types HO34006.out BK34001.out (by decide)) (fun _ hk => hk.2) (.int .i64 t34003)) (fun _ hk => hk.2) (.slice Ao12 t34004.length co12)) (fun _ hk => hk.2) (.slice Ao13 t34007.length co13)) (fun _ hk => hk.1.1))⟩, ⟨Kd.V_ext (Kd.V_mono (Kd.V_far (p := ⟨gb34001, 2, none⟩) (Kd.V_far (p := ⟨gb34001, 1, none⟩) (Kd.V_far (p := ⟨gb34001, 0, none⟩) (Kd.V_mono HO34009.out (fun k_ hk => (⟨hk, hk.2.2.1⟩ : _ ∧ k_ ≠ gb34001))) (fun _ hk => hk.2) (.int .i64 t34003)) (fun _ hk => hk.2) (.slice Ao12 t34004.length co12)) (fun _ hk => hk.2) (.slice Ao13 t34007.length co13)) (fun _ hk => ⟨hk.1.1, ⟨hk.1.2.1, ⟨hk.1.2.2.1, hk.1.2.2.2⟩⟩⟩))⟩, ⟨by (with_reducible repeat (first | refine blk_drewN ?_ _ | refine blk_drew ?_ | refine blk_alloc ?_ _)); refine blk_put (cs := #[.int .i64 t34003, .slice Ao12 t34004.length co12, .slice A0_2 l0_2.length c0_2]) ?_ 2 _ rfl; (with_reducible repeat (first | refine blk_drewN ?_ _ | refine blk_drew ?_ | refine blk_alloc ?_ _)); refine blk_put (cs := #[.int .i64 t34003, .slice A0_1 l0_1.length c0_1, .slice A0_2 l0_2.length c0_2]) ?_ 1 _ rfl; (with_reducible repeat (first | refine blk_drewN ?_ _ | refine blk_drew ?_ | refine blk_alloc ?_ _)); refine blk_put (cs := #[.int .i64 a0_0, .slice A0_1 l0_1.length c0_1, .slice A0_2 l0_2.length c0_2]) ?_ 0 _ rfl; exact blk_ext BK34001.out⟩, ⟨blk_extC BK34002.out⟩, ⟨below_extB HB.out⟩⟩
  case rest =>
    clear HC5
    try clear c1
    try clear p2
    try clear c3
    try clear c8
    try clear c14
    try clear c14b0
    try clear c14b1
    try clear c15
    try clear c15b0
    try clear hcz11_0
    try clear hcz11_1
    try clear hcz11_2
    try clear hcz9_0
    try clear hcz9_1
    try clear hcz9_2
    try clear hfz11_0
    try clear hfz11_1
    try clear hfz11_2
    try clear hfz9_0
    try clear hfz9_1
    try clear hfz9_2
    obtain ⟨kq, x26_4, rfl, HA, HJ4, HO_34002001, HO_34002002, BK34001, BK34002, HB⟩ := hcut
    cases kq with
    | zero => exact absurd HA.out (by simp [customsref33_Flush.j0])
    | succ kj4 =>
      have H := HA.out
      clear HA
      simp only [customsref33_Flush.j0] at H
      have HC16 := Aside0.mk H
      clear H
      go_upto_if 26 with (fail)
      go_cut [9] (fun v9 wc => ∃ (kq : Nat) (x9_15 : Int), v9 = .int .i64 x9_15 ∧ Aside0 (customsref33_Flush.j1 kq a2 x9_15 t34003 t34004 t34007 = some (r1, r2, r3, r4, r5)) ∧ Aside0 (kq ≤ kj4) ∧ Aside0 (Kd.R (Kd.int .i64) 3 wc w.heap.size (fun k_ => (w.heap.size ≤ k_)) (.slice Ao12 t34004.length co12) t34004) ∧ Aside0 (Kd.V (Kd.int .i64) 3 wc w.heap.size (fun k_ => (P0_2_ k_ ∨ w.heap.size ≤ k_) ∧ some k_ ≠ ((.slice Ao12 t34004.length co12) : Value).ownBlock ∧ k_ ≠ gb34001 ∧ k_ ≠ gb34002) (.slice Ao13 t34007.length co13) t34007) ∧ Aside0 (wc.heap[gb34001]? = some (.cells #[.int .i64 t34003, (.slice Ao12 t34004.length co12), (.slice Ao13 t34007.length co13)] 44 (0, 0))) ∧ Aside0 (wc.heap[gb34002]? = some (.cells #[.int .i64 0, (.slice none 0 0), (.slice none 0 0)] 44 (0, 0))) ∧ Aside0 (Below w.heap.size w wc))
      case first =>
        have H := HC16.out
        clear HC16
        by_cases c17 : x26_4 = true
        · subst c17
          have H1 : (customsref33_Flush.j1 kj4 a2 2 t34003 t34004 t34007) = some (r1, r2, r3, r4, r5) := by rw [if_pos rfl] at H; exact H
          clear H
          have H := H1
          clear H1
          have H' := Aside0.mk H
          clear H
          go_wp2
          go_meet
          case rel => exact ⟨_, (2), (by first | rfl | (simp; done) | (simp [*]; done)), H', ⟨by have := HJ4.out; first | omega | exact Nat.le_refl _⟩, ⟨Kd.R_ext HO_34002001.out⟩, ⟨Kd.V_ext HO_34002002.out⟩, ⟨blk_ext BK34001.out⟩, ⟨blk_ext BK34002.out⟩, ⟨below_extB HB.out⟩⟩
        · replace c17 := Bool.eq_false_iff.mpr c17
          subst c17
          have H1 : (customsref33_Flush.j1 kj4 a2 t34010 t34003 t34004 t34007) = some (r1, r2, r3, r4, r5) := by rw [if_neg (show ¬ (false = true) by decide)] at H; exact H
          clear H
          have H := H1
          clear H1
          have H' := Aside0.mk H
          clear H
          go_wp2
          go_meet
          case rel => exact ⟨_, (t34010), (by first | rfl | (simp; done) | (simp [*]; done)), H', ⟨by have := HJ4.out; first | omega | exact Nat.le_refl _⟩, ⟨Kd.R_ext HO_34002001.out⟩, ⟨Kd.V_ext HO_34002002.out⟩, ⟨blk_ext BK34001.out⟩, ⟨blk_ext BK34002.out⟩, ⟨below_extB HB.out⟩⟩
      case rest =>
        clear HC16
        try clear c1
        try clear p2
        try clear c3
        try clear c8
        try clear c14
        try clear c14b0
        try clear c14b1
        try clear c15
        try clear c15b0
        try clear c17
        try clear hcz11_0
        try clear hcz11_1
        try clear hcz11_2
        try clear hcz9_0
        try clear hcz9_1
        try clear hcz9_2
        try clear hfz11_0
        try clear hfz11_1
        try clear hfz11_2
        try clear hfz9_0
        try clear hfz9_1
        try clear hfz9_2
        try clear p2
        obtain ⟨kq, x9_15, rfl, HA, HJ15, HO_34002001, HO_34002002, BK34001, BK34002, HB⟩ := hcut
        cases kq with
        | zero => exact absurd HA.out (by simp [customsref33_Flush.j1])
        | succ kj15 =>
          have H := HA.out
          clear HA
          simp only [customsref33_Flush.j1] at H
          by_cases c18 : x9_15 = 0
          · rw [if_pos c18] at H
            have c18b0 : (x9_15 == 0) = true := beq_iff_eq.mpr c18
            have c18b1 : (x9_15 != 0) = false := bne_eq_false_iff_eq.mpr c18
            clear c18
            have H' := Aside0.mk H
            clear H
            go_wp2
            go_loopg [2] kj15 (fun kq v2 w' => ∃ (x2_3 : Int) (x34002000_3 : Int) (x34002001_3 : List Int) (x34002002_3 : List Int) (u34002001 : Value) (u34002002 : Value), v2 = .int .i64 x2_3 ∧ Aside0 (customsref33_Flush.l0 kq x2_3 x34002000_3 x34002001_3 x34002002_3 = some (r1, r2, r3, r4, r5)) ∧ Aside0 (kq ≤ kj15) ∧ Aside0 (Kd.V (Kd.int .i64) 3 w' w.heap.size (fun k_ => (P0_2_ k_ ∨ w.heap.size ≤ k_) ∧ k_ ≠ gb34001 ∧ k_ ≠ gb34002) u34002001 x34002001_3) ∧ Aside0 (Kd.V (Kd.int .i64) 3 w' w.heap.size (fun k_ => (P0_2_ k_ ∨ w.heap.size ≤ k_) ∧ k_ ≠ gb34001 ∧ k_ ≠ gb34002) u34002002 x34002002_3) ∧ Aside0 (w'.heap[gb34001]? = some (.cells #[.int .i64 x34002000_3, u34002001, u34002002] 44 (0, 0))) ∧ Aside0 (w'.heap[gb34002]? = some (.cells #[.int .i64 0, (.slice none 0 0), (.slice none 0 0)] 44 (0, 0))) ∧ Aside0 (Below w.heap.size w w'))
            case atStart => exact ⟨(a2), (t34003), (t34004), (t34007), (.slice Ao12 t34004.length co12), (.slice Ao13 t34007.length co13), (by first | rfl | (simp; done) | (simp [*]; done)), H', ⟨Nat.le_refl _⟩, ⟨Kd.V_mono (Kd.R_V (Kd.R_ext (Kd.R_mono (Kd.R_types (Kd.R_types HO_34002001.out BK34001.out (by decide)) BK34002.out (by decide)) (fun _ hk => (And.intro (hk.1.1) (And.intro (hk.1.2) (hk.2))))))) (fun k_ hk => by first | exact ⟨(.inr (hk.1)), hk.2⟩ | exact (.inr (hk)))⟩, ⟨Kd.V_ext (Kd.V_mono HO_34002002.out (fun _ hk => ⟨hk.1, ⟨hk.2.2.1, hk.2.2.2⟩⟩))⟩, ⟨blk_ext BK34001.out⟩, ⟨blk_ext BK34002.out⟩, ⟨below_extB HB.out⟩⟩
            case round =>
              clear H'
              try clear c1
              try clear p2
              try clear c3
              try clear c8
              try clear c14
              try clear c14b0
              try clear c14b1
              try clear c15
              try clear c15b0
              try clear c17
              try clear c18
              try clear c18b0
              try clear c18b1
              try clear hcz11_0
              try clear hcz11_1
              try clear hcz11_2
              try clear hcz9_0
              try clear hcz9_1
              try clear hcz9_2
              try clear hfz11_0
              try clear hfz11_1
              try clear hfz11_2
              try clear hfz9_0
              try clear hfz9_1
              try clear hfz9_2
              try clear p2
              obtain ⟨x2_3, x34002000_3, x34002001_3, x34002002_3, u34002001, u34002002, rfl, HA, HK3, HO_34002001, HO_34002002, BK34001, BK34002, HB⟩ := hrel
              cases gk with
              | zero => exact absurd HA.out (by simp [customsref33_Flush.l0])
              | succ k3 =>
                have H := HA.out
                clear HA
                simp only [customsref33_Flush.l0] at H
                by_cases c19 : (x34002001_3.length : Int) > 0
                · rw [if_pos c19] at H
                  have c19b0 : decide (0 < (x34002001_3.length : Int)) = true := decide_eq_true c19
                  have c19b1 : decide (0 < x34002001_3.length) = true := decide_eq_true (by omega)
                  clear c19
                  replace H := Option.bind_eq_some_iff.mp H
                  obtain ⟨⟨t34011, t34012, t34015, t34018, t34019⟩, A200, H⟩ := H
                  replace H : (if t34018 = (wrap64 (x2_3 + 1)) then (customsref33_Flush.l0 k3 t34018 t34011 t34012 t34015) else (customsref33_Flush.l0 k3 x2_3 t34011 t34012 t34015)) = some (r1, r2, r3, r4, r5) := H
                  have A20 := Aside0.mk A200
                  clear A200
                  by_cases c21 : t34018 = (wrap64 (x2_3 + 1))
                  · rw [if_pos c21] at H
                    have c21b0 : (t34018 == (wrap64 (x2_3 + 1))) = true := beq_iff_eq.mpr c21
                    have c21b1 : (t34018 != (wrap64 (x2_3 + 1))) = false := bne_eq_false_iff_eq.mpr c21
                    clear c21
                    have H' := Aside0.mk H
                    clear H
                    have hnb22 := NB34001_34002.out
                    have hnc22 := NB34002_34001.out
                    have hcz23_0 : wr.cell? ⟨gb34001, 0, none⟩ = some (.int .i64 x34002000_3) := (blk_cell BK34001.out 0).trans rfl
                    have hcz23_1 : wr.cell? ⟨gb34001, 1, none⟩ = some (u34002001) := (blk_cell BK34001.out 1).trans rfl
                    have hcz23_2 : wr.cell? ⟨gb34001, 2, none⟩ = some (u34002002) := (blk_cell BK34001.out 2).trans rfl
                    have hfz23_0 := blk_frozen BK34001.out 0
                    have hfz23_1 := blk_frozen BK34001.out 1
                    have hfz23_2 := blk_frozen BK34001.out 2
                    obtain ⟨Ao24, co24, eo24⟩ := Kd.V_slice HO_34002001.out
                    subst eo24
                    obtain ⟨Ao25, co25, eo25⟩ := Kd.V_slice HO_34002002.out
                    subst eo25
                    go_wp2_with (first | ((with_reducible refine gate_callee (f := 40) rfl ?_); refine goesL_ (some 38) rfl rfl Try.func40 (by kernel_rfl) rfl #[.agg #[.int .i64 x34002000_3, .slice Ao24 x34002001_3.length co24, .slice Ao25 x34002002_3.length co25], .int .i64 0, .int .i64 x2_3] rfl (by (try simp only [List.map_toArray, List.map_cons, List.map_nil]); first | done | rfl | (simp only [List.length_drop, List.length_take]; rfl)) ?_; (with_reducible refine (customsref33_Deliver.calls k3 x34002000_3 _ _ x34002001_3 _ _ x34002002_3 0 x2_3 t34011 t34012 t34015 t34018 t34019 _ ?side1 ?side2 ?side3 ?side4 A20.out).mono ?_); (case side1 => exact Kd.C_ext (Kd.V_reads' HO_34002001.out).2.2); (case side2 => exact (Kd.V_reads' HO_34002001.out).2.1); (case side3 => exact Kd.C_ext (Kd.V_reads' HO_34002002.out).2.2); (case side4 => exact (Kd.V_reads' HO_34002002.out).2.1); rintro e w26 ⟨v34013, v34016, rfl, ho0, ho1, hb⟩; refine ⟨_, rfl, ?_⟩; have n2_ := Aside0.mk (Kd.R_lower (Kd.R_newM (M := fun k_ => (w.heap.size ≤ k_)) ho0 (below_size (below_extB HB.out)) (fun k_ h_ => h_)) (below_size (below_extB HB.out))); have n3_ := Aside0.mk (Kd.R_lower (Kd.R_newM (M := fun k_ => (w.heap.size ≤ k_)) ho1 (below_size (below_extB HB.out)) (fun k_ h_ => h_)) (below_size (below_extB HB.out))); have HO34014 := n2_; have HO34017 := n3_; replace HO_34002001 := tdV2 HO_34002001 hb (Kd.R_base ho0) (Kd.R_base ho1); replace HO_34002002 := tdV2 HO_34002002 hb (Kd.R_base ho0) (Kd.R_base ho1); replace BK34001 := mvB BK34001 hb; replace BK34002 := mvB BK34002 hb; replace HB := mvH HB hb; clear n2_ n3_; (try clear hb); (try clear hb2); (try clear hk); (try clear hi); (try clear ho0); (try clear ho1); have hcz27_0 : w26.cell? ⟨gb34001, 0, none⟩ = some (.int .i64 x34002000_3) := (blk_cell BK34001.out 0).trans rfl; have hcz27_1 : w26.cell? ⟨gb34001, 1, none⟩ = some (.slice Ao24 x34002001_3.length co24) := (blk_cell BK34001.out 1).trans rfl; have hcz27_2 : w26.cell? ⟨gb34001, 2, none⟩ = some (.slice Ao25 x34002002_3.length co25) := (blk_cell BK34001.out 2).trans rfl; have hfz27_0 := blk_frozen BK34001.out 0; have hfz27_1 := blk_frozen BK34001.out 1; have hfz27_2 := blk_frozen BK34001.out 2; obtain ⟨Ao28, co28, eo28⟩ := Kd.R_slice HO34014.out; subst eo28; obtain ⟨Ao29, co29, eo29⟩ := Kd.R_slice HO34017.out; subst eo29))
                    go_roundg k3
                    case measure => have := HJ4.out; have := HJ15.out; have := HK3.out; omega
                    case rel => exact ⟨(t34018), (t34011), (t34012), (t34015), (.slice Ao28 t34012.length co28), (.slice Ao29 t34015.length co29), (by first | rfl | (simp; done) | (simp [*]; done)), H', ⟨by have := HJ4.out; have := HJ15.out; have := HK3.out; omega⟩, ⟨Kd.V_mono (Kd.R_V (Kd.R_ext (Kd.R_mono (Kd.R_far (p := ⟨gb34001, 2, none⟩) (Kd.R_far (p := ⟨gb34001, 1, none⟩) (Kd.R_far (p := ⟨gb34001, 0, none⟩) (Kd.R_types (Kd.R_types (Kd.R_types HO34014.out BK34001.out (by decide)) BK34002.out (by decide)) BK34001.out (by decide)) (fun _ hk => hk.2) (.int .i64 t34011)) (fun _ hk => hk.2) (.slice Ao28 t34012.length co28)) (fun _ hk => hk.2) (.slice Ao29 t34015.length co29)) (fun _ hk => (And.intro (hk.1.1.1.1) (And.intro (hk.1.1.2) (hk.1.2))))))) (fun k_ hk => by first | exact ⟨(.inr (hk.1)), hk.2⟩ | exact (.inr (hk)))⟩, ⟨Kd.V_mono (Kd.R_V (Kd.R_ext (Kd.R_mono (Kd.R_far (p := ⟨gb34001, 2, none⟩) (Kd.R_far (p := ⟨gb34001, 1, none⟩) (Kd.R_far (p := ⟨gb34001, 0, none⟩) (Kd.R_types (Kd.R_types (Kd.R_types HO34017.out BK34001.out (by decide)) BK34002.out (by decide)) BK34001.out (by decide)) (fun _ hk => hk.2) (.int .i64 t34011)) (fun _ hk => hk.2) (.slice Ao28 t34012.length co28)) (fun _ hk => hk.2) (.slice Ao29 t34015.length co29)) (fun _ hk => (And.intro (hk.1.1.1.1) (And.intro (hk.1.1.2) (hk.1.2))))))) (fun k_ hk => by first | exact ⟨(.inr (hk.1)), hk.2⟩ | exact (.inr (hk)))⟩, ⟨by (with_reducible repeat (first | refine blk_drewN ?_ _ | refine blk_drew ?_ | refine blk_alloc ?_ _)); refine blk_put (cs := #[.int .i64 t34011, .slice Ao28 t34012.length co28, .slice Ao25 x34002002_3.length co25]) ?_ 2 _ rfl; (with_reducible repeat (first | refine blk_drewN ?_ _ | refine blk_drew ?_ | refine blk_alloc ?_ _)); refine blk_put (cs := #[.int .i64 t34011, .slice Ao24 x34002001_3.length co24, .slice Ao25 x34002002_3.length co25]) ?_ 1 _ rfl; (with_reducible repeat (first | refine blk_drewN ?_ _ | refine blk_drew ?_ | refine blk_alloc ?_ _)); refine blk_put (cs := #[.int .i64 x34002000_3, .slice Ao24 x34002001_3.length co24, .slice Ao25 x34002002_3.length co25]) ?_ 0 _ rfl; exact blk_ext BK34001.out⟩, ⟨blk_extC BK34002.out⟩, ⟨below_extB HB.out⟩⟩
                  · rw [if_neg c21] at H
                    have c21b0 : (t34018 == (wrap64 (x2_3 + 1))) = false := beq_eq_false_iff_ne.mpr c21
                    have c21b1 : (t34018 != (wrap64 (x2_3 + 1))) = true := bne_iff_ne.mpr c21
                    have H' := Aside0.mk H
                    clear H
                    have hnb30 := NB34001_34002.out
                    have hnc30 := NB34002_34001.out
                    have hcz31_0 : wr.cell? ⟨gb34001, 0, none⟩ = some (.int .i64 x34002000_3) := (blk_cell BK34001.out 0).trans rfl
                    have hcz31_1 : wr.cell? ⟨gb34001, 1, none⟩ = some (u34002001) := (blk_cell BK34001.out 1).trans rfl
                    have hcz31_2 : wr.cell? ⟨gb34001, 2, none⟩ = some (u34002002) := (blk_cell BK34001.out 2).trans rfl
                    have hfz31_0 := blk_frozen BK34001.out 0
                    have hfz31_1 := blk_frozen BK34001.out 1
                    have hfz31_2 := blk_frozen BK34001.out 2
                    obtain ⟨Ao32, co32, eo32⟩ := Kd.V_slice HO_34002001.out
                    subst eo32
                    obtain ⟨Ao33, co33, eo33⟩ := Kd.V_slice HO_34002002.out
                    subst eo33
                    go_wp2_with (first | ((with_reducible refine gate_callee (f := 40) rfl ?_); refine goesL_ (some 38) rfl rfl Try.func40 (by kernel_rfl) rfl #[.agg #[.int .i64 x34002000_3, .slice Ao32 x34002001_3.length co32, .slice Ao33 x34002002_3.length co33], .int .i64 0, .int .i64 x2_3] rfl (by (try simp only [List.map_toArray, List.map_cons, List.map_nil]); first | done | rfl | (simp only [List.length_drop, List.length_take]; rfl)) ?_; (with_reducible refine (customsref33_Deliver.calls k3 x34002000_3 _ _ x34002001_3 _ _ x34002002_3 0 x2_3 t34011 t34012 t34015 t34018 t34019 _ ?side1 ?side2 ?side3 ?side4 A20.out).mono ?_); (case side1 => exact Kd.C_ext (Kd.V_reads' HO_34002001.out).2.2); (case side2 => exact (Kd.V_reads' HO_34002001.out).2.1); (case side3 => exact Kd.C_ext (Kd.V_reads' HO_34002002.out).2.2); (case side4 => exact (Kd.V_reads' HO_34002002.out).2.1); rintro e w34 ⟨v34013, v34016, rfl, ho0, ho1, hb⟩; refine ⟨_, rfl, ?_⟩; have n2_ := Aside0.mk (Kd.R_lower (Kd.R_newM (M := fun k_ => (w.heap.size ≤ k_)) ho0 (below_size (below_extB HB.out)) (fun k_ h_ => h_)) (below_size (below_extB HB.out))); have n3_ := Aside0.mk (Kd.R_lower (Kd.R_newM (M := fun k_ => (w.heap.size ≤ k_)) ho1 (below_size (below_extB HB.out)) (fun k_ h_ => h_)) (below_size (below_extB HB.out))); have HO34014 := n2_; have HO34017 := n3_; replace HO_34002001 := tdV2 HO_34002001 hb (Kd.R_base ho0) (Kd.R_base ho1); replace HO_34002002 := tdV2 HO_34002002 hb (Kd.R_base ho0) (Kd.R_base ho1); replace BK34001 := mvB BK34001 hb; replace BK34002 := mvB BK34002 hb; replace HB := mvH HB hb; clear n2_ n3_; (try clear hb); (try clear hb2); (try clear hk); (try clear hi); (try clear ho0); (try clear ho1); have hcz35_0 : w34.cell? ⟨gb34001, 0, none⟩ = some (.int .i64 x34002000_3) := (blk_cell BK34001.out 0).trans rfl; have hcz35_1 : w34.cell? ⟨gb34001, 1, none⟩ = some (.slice Ao32 x34002001_3.length co32) := (blk_cell BK34001.out 1).trans rfl; have hcz35_2 : w34.cell? ⟨gb34001, 2, none⟩ = some (.slice Ao33 x34002002_3.length co33) := (blk_cell BK34001.out 2).trans rfl; have hfz35_0 := blk_frozen BK34001.out 0; have hfz35_1 := blk_frozen BK34001.out 1; have hfz35_2 := blk_frozen BK34001.out 2; obtain ⟨Ao36, co36, eo36⟩ := Kd.R_slice HO34014.out; subst eo36; obtain ⟨Ao37, co37, eo37⟩ := Kd.R_slice HO34017.out; subst eo37))
                    go_roundg k3
                    case measure => have := HJ4.out; have := HJ15.out; have := HK3.out; omega
                    case rel => exact ⟨(x2_3), (t34011), (t34012), (t34015), (.slice Ao36 t34012.length co36), (.slice Ao37 t34015.length co37), (by first | rfl | (simp; done) | (simp [*]; done)), H', ⟨by have := HJ4.out; have := HJ15.out; have := HK3.out; omega⟩, ⟨Kd.V_mono (Kd.R_V (Kd.R_ext (Kd.R_mono (Kd.R_far (p := ⟨gb34001, 2, none⟩) (Kd.R_far (p := ⟨gb34001, 1, none⟩) (Kd.R_far (p := ⟨gb34001, 0, none⟩) (Kd.R_types (Kd.R_types (Kd.R_types HO34014.out BK34001.out (by decide)) BK34002.out (by decide)) BK34001.out (by decide)) (fun _ hk => hk.2) (.int .i64 t34011)) (fun _ hk => hk.2) (.slice Ao36 t34012.length co36)) (fun _ hk => hk.2) (.slice Ao37 t34015.length co37)) (fun _ hk => (And.intro (hk.1.1.1.1) (And.intro (hk.1.1.2) (hk.1.2))))))) (fun k_ hk => by first | exact ⟨(.inr (hk.1)), hk.2⟩ | exact (.inr (hk)))⟩, ⟨Kd.V_mono (Kd.R_V (Kd.R_ext (Kd.R_mono (Kd.R_far (p := ⟨gb34001, 2, none⟩) (Kd.R_far (p := ⟨gb34001, 1, none⟩) (Kd.R_far (p := ⟨gb34001, 0, none⟩) (Kd.R_types (Kd.R_types (Kd.R_types HO34017.out BK34001.out (by decide)) BK34002.out (by decide)) BK34001.out (by decide)) (fun _ hk => hk.2) (.int .i64 t34011)) (fun _ hk => hk.2) (.slice Ao36 t34012.length co36)) (fun _ hk => hk.2) (.slice Ao37 t34015.length co37)) (fun _ hk => (And.intro (hk.1.1.1.1) (And.intro (hk.1.1.2) (hk.1.2))))))) (fun k_ hk => by first | exact ⟨(.inr (hk.1)), hk.2⟩ | exact (.inr (hk)))⟩, ⟨by (with_reducible repeat (first | refine blk_drewN ?_ _ | refine blk_drew ?_ | refine blk_alloc ?_ _)); refine blk_put (cs := #[.int .i64 t34011, .slice Ao36 t34012.length co36, .slice Ao33 x34002002_3.length co33]) ?_ 2 _ rfl; (with_reducible repeat (first | refine blk_drewN ?_ _ | refine blk_drew ?_ | refine blk_alloc ?_ _)); refine blk_put (cs := #[.int .i64 t34011, .slice Ao32 x34002001_3.length co32, .slice Ao33 x34002002_3.length co33]) ?_ 1 _ rfl; (with_reducible repeat (first | refine blk_drewN ?_ _ | refine blk_drew ?_ | refine blk_alloc ?_ _)); refine blk_put (cs := #[.int .i64 x34002000_3, .slice Ao32 x34002001_3.length co32, .slice Ao33 x34002002_3.length co33]) ?_ 0 _ rfl; exact blk_ext BK34001.out⟩, ⟨blk_extC BK34002.out⟩, ⟨below_extB HB.out⟩⟩
                · rw [if_neg c19] at H
                  have c19b0 : decide (0 < (x34002001_3.length : Int)) = false := decide_eq_false c19
                  have c19b1 : decide (0 < x34002001_3.length) = false := decide_eq_false (by omega)
                  clear c19
                  have H' := Aside0.mk H
                  clear H
                  have hnb38 := NB34001_34002.out
                  have hnc38 := NB34002_34001.out
                  have hcz39_0 : wr.cell? ⟨gb34001, 0, none⟩ = some (.int .i64 x34002000_3) := (blk_cell BK34001.out 0).trans rfl
                  have hcz39_1 : wr.cell? ⟨gb34001, 1, none⟩ = some (u34002001) := (blk_cell BK34001.out 1).trans rfl
                  have hcz39_2 : wr.cell? ⟨gb34001, 2, none⟩ = some (u34002002) := (blk_cell BK34001.out 2).trans rfl
                  have hfz39_0 := blk_frozen BK34001.out 0
                  have hfz39_1 := blk_frozen BK34001.out 1
                  have hfz39_2 := blk_frozen BK34001.out 2
                  obtain ⟨Ao40, co40, eo40⟩ := Kd.V_slice HO_34002001.out
                  subst eo40
                  go_wp2
                  go_loopg [] k3 (fun kq w' => ∃ (x34002000_4 : Int) (x34002001_4 : List Int) (x34002002_4 : List Int) (u34002001 : Value) (u34002002 : Value), Aside0 (customsref33_Flush.l1 kq x2_3 x34002000_4 x34002001_4 x34002002_4 = some (r1, r2, r3, r4, r5)) ∧ Aside0 (kq ≤ k3) ∧ Aside0 (Kd.V (Kd.int .i64) 3 w' w.heap.size (fun k_ => (P0_2_ k_ ∨ w.heap.size ≤ k_) ∧ k_ ≠ gb34001 ∧ k_ ≠ gb34002) u34002001 x34002001_4) ∧ Aside0 (Kd.V (Kd.int .i64) 3 w' w.heap.size (fun k_ => (P0_2_ k_ ∨ w.heap.size ≤ k_) ∧ k_ ≠ gb34001 ∧ k_ ≠ gb34002) u34002002 x34002002_4) ∧ Aside0 (w'.heap[gb34001]? = some (.cells #[.int .i64 x34002000_4, u34002001, u34002002] 44 (0, 0))) ∧ Aside0 (w'.heap[gb34002]? = some (.cells #[.int .i64 0, (.slice none 0 0), (.slice none 0 0)] 44 (0, 0))) ∧ Aside0 (Below w.heap.size w w'))
                  case atStart => exact ⟨(x34002000_3), (x34002001_3), (x34002002_3), (.slice Ao40 x34002001_3.length co40), (u34002002), H', ⟨Nat.le_refl _⟩, ⟨Kd.V_ext HO_34002001.out⟩, ⟨Kd.V_ext HO_34002002.out⟩, ⟨blk_ext BK34001.out⟩, ⟨blk_ext BK34002.out⟩, ⟨below_extB HB.out⟩⟩
                  case round =>
                    clear H'
                    try clear c1
                    try clear c2
                    try clear p2
                    try clear c3
                    try clear c4
                    try clear p6
                    try clear c8
                    try clear c14
                    try clear c14b0
                    try clear c14b1
                    try clear c15
                    try clear c15b0
                    try clear c17
                    try clear c18
                    try clear c18b0
                    try clear c18b1
                    try clear c19
                    try clear c19b0
                    try clear c19b1
                    try clear c21
                    try clear c21b0
                    try clear c21b1
                    try clear c22
                    try clear c30
                    try clear c34
                    try clear c38
                    try clear c40
                    try clear hcz11_0
                    try clear hcz11_1
                    try clear hcz11_2
                    try clear hcz23_0
                    try clear hcz23_1
                    try clear hcz23_2
                    try clear hcz27_0
                    try clear hcz27_1
                    try clear hcz27_2
                    try clear hcz31_0
                    try clear hcz31_1
                    try clear hcz31_2
                    try clear hcz35_0
                    try clear hcz35_1
                    try clear hcz35_2
                    try clear hcz39_0
                    try clear hcz39_1
                    try clear hcz39_2
                    try clear hcz9_0
                    try clear hcz9_1
                    try clear hcz9_2
                    try clear hfz11_0
                    try clear hfz11_1
                    try clear hfz11_2
                    try clear hfz23_0
                    try clear hfz23_1
                    try clear hfz23_2
                    try clear hfz27_0
                    try clear hfz27_1
                    try clear hfz27_2
                    try clear hfz31_0
                    try clear hfz31_1
                    try clear hfz31_2
                    try clear hfz35_0
                    try clear hfz35_1
                    try clear hfz35_2
                    try clear hfz39_0
                    try clear hfz39_1
                    try clear hfz39_2
                    try clear hfz9_0
                    try clear hfz9_1
                    try clear hfz9_2
                    try clear p2
                    obtain ⟨x34002000_4, x34002001_4, x34002002_4, u34002001, u34002002, HA, HK4, HO_34002001, HO_34002002, BK34001, BK34002, HB⟩ := hrel
                    cases gk with
                    | zero => exact absurd HA.out (by simp [customsref33_Flush.l1])
                    | succ k4 =>
                      have H := HA.out
                      clear HA
                      simp only [customsref33_Flush.l1] at H
                      by_cases c41 : (x34002002_4.length : Int) > 0
                      · rw [if_pos c41] at H
                        have c41b0 : decide (0 < (x34002002_4.length : Int)) = true := decide_eq_true c41
                        have c41b1 : decide (0 < x34002002_4.length) = true := decide_eq_true (by omega)
                        clear c41
                        replace H := Option.bind_eq_some_iff.mp H
                        obtain ⟨⟨t34020, t34021, t34024, t34027⟩, A420, H⟩ := H
                        replace H : (customsref33_Flush.l1 k4 x2_3 t34020 t34021 t34024) = some (r1, r2, r3, r4, r5) := H
                        have A42 := Aside0.mk A420
                        clear A420
                        have H' := Aside0.mk H
                        clear H
                        have hnb43 := NB34001_34002.out
                        have hnc43 := NB34002_34001.out
                        have hcz44_0 : wr.cell? ⟨gb34001, 0, none⟩ = some (.int .i64 x34002000_4) := (blk_cell BK34001.out 0).trans rfl
                        have hcz44_1 : wr.cell? ⟨gb34001, 1, none⟩ = some (u34002001) := (blk_cell BK34001.out 1).trans rfl
                        have hcz44_2 : wr.cell? ⟨gb34001, 2, none⟩ = some (u34002002) := (blk_cell BK34001.out 2).trans rfl
                        have hfz44_0 := blk_frozen BK34001.out 0
                        have hfz44_1 := blk_frozen BK34001.out 1
                        have hfz44_2 := blk_frozen BK34001.out 2
                        obtain ⟨Ao45, co45, eo45⟩ := Kd.V_slice HO_34002002.out
                        subst eo45
                        obtain ⟨Ao46, co46, eo46⟩ := Kd.V_slice HO_34002001.out
                        subst eo46
                        go_wp2_with (first | ((with_reducible refine gate_callee (f := 46) rfl ?_); refine goesL_ (some 53) rfl rfl Try.func46 (by kernel_rfl) rfl #[.agg #[.int .i64 x34002000_4, .slice Ao46 x34002001_4.length co46, .slice Ao45 x34002002_4.length co45], .int .i64 0] rfl (by (try simp only [List.map_toArray, List.map_cons, List.map_nil]); first | done | rfl | (simp only [List.length_drop, List.length_take]; rfl)) ?_; (with_reducible refine (customsref33_Confirm.calls x34002000_4 (fun k_ => ((P0_2_ k_ ∨ w.heap.size ≤ k_) ∧ (k_ ≠ gb34001 ∧ k_ ≠ gb34002))) _ _ x34002001_4 _ _ x34002002_4 0 t34020 t34021 t34024 t34027 _ ?side1 ?side2 ?side3 A42.out).mono ?_); (case side1 => exact HO_34002001.out); (case side2 => exact Kd.C_ext (Kd.V_reads' HO_34002002.out).2.2); (case side3 => exact (Kd.V_reads' HO_34002002.out).2.1); rintro e w47 ⟨v34022, v34025, rfl, ho0, ho1, hb⟩; refine ⟨_, rfl, ?_⟩; have n2_ := Aside0.mk (Kd.V_lower (Kd.V_mono (ok' := fun k_ => (P0_2_ k_ ∨ w.heap.size ≤ k_) ∧ some k_ ≠ (v34025 : Value).ownBlock ∧ k_ ≠ gb34001 ∧ k_ ≠ gb34002) ho0 (fun k_ hk_ => ⟨Or.elim hk_.1 (fun hs_ => hs_.1) (fun hn_ => (.inr (Nat.le_trans (below_size (below_extB HB.out)) hn_))), hk_.2, Or.elim hk_.1 (fun hs_ => hs_.2.1) (fun hn_ => (Kd.freshB (blk_ext BK34001.out) k_ hn_)), Or.elim hk_.1 (fun hs_ => hs_.2.2) (fun hn_ => (Kd.freshB (blk_ext BK34002.out) k_ hn_))⟩)) (below_size (below_extB HB.out))); have n3_ := Aside0.mk (Kd.R_lower (Kd.R_newM (M := fun k_ => (w.heap.size ≤ k_)) (Kd.R_mono (ok' := fun k_ => True) ho1 (fun _ hk_ => trivial)) (below_size (below_extB HB.out)) (fun k_ h_ => h_)) (below_size (below_extB HB.out))); have HO34023 := n2_; have HO34026 := n3_; replace HO_34002001 := apV HO_34002001 hb (Kd.R_base ho1); replace HO_34002002 := apV HO_34002002 hb (Kd.R_base ho1); replace BK34001 := mvB BK34001 hb; replace BK34002 := mvB BK34002 hb; replace HB := mvH HB hb; clear n2_ n3_; (try clear hb); (try clear hb2); (try clear hk); (try clear hi); (try clear ho0); (try clear ho1); have hcz48_0 : w47.cell? ⟨gb34001, 0, none⟩ = some (.int .i64 x34002000_4) := (blk_cell BK34001.out 0).trans rfl; have hcz48_1 : w47.cell? ⟨gb34001, 1, none⟩ = some (.slice Ao46 x34002001_4.length co46) := (blk_cell BK34001.out 1).trans rfl; have hcz48_2 : w47.cell? ⟨gb34001, 2, none⟩ = some (.slice Ao45 x34002002_4.length co45) := (blk_cell BK34001.out 2).trans rfl; have hfz48_0 := blk_frozen BK34001.out 0; have hfz48_1 := blk_frozen BK34001.out 1; have hfz48_2 := blk_frozen BK34001.out 2; obtain ⟨Ao49, co49, eo49⟩ := Kd.V_slice HO34023.out; subst eo49; obtain ⟨Ao50, co50, eo50⟩ := Kd.R_slice HO34026.out; subst eo50))
                        go_roundg k4
                        case measure => have := HJ4.out; have := HJ15.out; have := HK3.out; have := HK4.out; omega
                        case rel => exact ⟨(t34020), (t34021), (t34024), (.slice Ao49 t34021.length co49), (.slice Ao50 t34024.length co50), H', ⟨by have := HJ4.out; have := HJ15.out; have := HK3.out; have := HK4.out; omega⟩, ⟨Kd.V_ext (Kd.V_mono (Kd.V_far (p := ⟨gb34001, 2, none⟩) (Kd.V_far (p := ⟨gb34001, 1, none⟩) (Kd.V_far (p := ⟨gb34001, 0, none⟩) (Kd.V_mono HO34023.out (fun k_ hk => (⟨hk, hk.2.2.1⟩ : _ ∧ k_ ≠ gb34001))) (fun _ hk => hk.2) (.int .i64 t34020)) (fun _ hk => hk.2) (.slice Ao49 t34021.length co49)) (fun _ hk => hk.2) (.slice Ao50 t34024.length co50)) (fun _ hk => ⟨hk.1.1, ⟨hk.1.2.2.1, hk.1.2.2.2⟩⟩))⟩, ⟨Kd.V_mono (Kd.R_V (Kd.R_ext (Kd.R_mono (Kd.R_far (p := ⟨gb34001, 2, none⟩) (Kd.R_far (p := ⟨gb34001, 1, none⟩) (Kd.R_far (p := ⟨gb34001, 0, none⟩) (Kd.R_types (Kd.R_types (Kd.R_types HO34026.out BK34001.out (by decide)) BK34002.out (by decide)) BK34001.out (by decide)) (fun _ hk => hk.2) (.int .i64 t34020)) (fun _ hk => hk.2) (.slice Ao49 t34021.length co49)) (fun _ hk => hk.2) (.slice Ao50 t34024.length co50)) (fun _ hk => (And.intro (hk.1.1.1.1) (And.intro (hk.1.1.2) (hk.1.2))))))) (fun k_ hk => by first | exact ⟨(.inr (hk.1)), hk.2⟩ | exact (.inr (hk)))⟩, ⟨by (with_reducible repeat (first | refine blk_drewN ?_ _ | refine blk_drew ?_ | refine blk_alloc ?_ _)); refine blk_put (cs := #[.int .i64 t34020, .slice Ao49 t34021.length co49, .slice Ao45 x34002002_4.length co45]) ?_ 2 _ rfl; (with_reducible repeat (first | refine blk_drewN ?_ _ | refine blk_drew ?_ | refine blk_alloc ?_ _)); refine blk_put (cs := #[.int .i64 t34020, .slice Ao46 x34002001_4.length co46, .slice Ao45 x34002002_4.length co45]) ?_ 1 _ rfl; (with_reducible repeat (first | refine blk_drewN ?_ _ | refine blk_drew ?_ | refine blk_alloc ?_ _)); refine blk_put (cs := #[.int .i64 x34002000_4, .slice Ao46 x34002001_4.length co46, .slice Ao45 x34002002_4.length co45]) ?_ 0 _ rfl; exact blk_ext BK34001.out⟩, ⟨blk_extC BK34002.out⟩, ⟨below_extB HB.out⟩⟩
                      · rw [if_neg c41] at H
                        have c41b0 : decide (0 < (x34002002_4.length : Int)) = false := decide_eq_false c41
                        have c41b1 : decide (0 < x34002002_4.length) = false := decide_eq_false (by omega)
                        clear c41
                        simp only [Option.some.injEq, Prod.mk.injEq] at H
                        obtain ⟨rfl, rfl, rfl, rfl, rfl⟩ := H
                        have hnb51 := NB34001_34002.out
                        have hnc51 := NB34002_34001.out
                        have hcz52_0 : wr.cell? ⟨gb34001, 0, none⟩ = some (.int .i64 x34002000_4) := (blk_cell BK34001.out 0).trans rfl
                        have hcz52_1 : wr.cell? ⟨gb34001, 1, none⟩ = some (u34002001) := (blk_cell BK34001.out 1).trans rfl
                        have hcz52_2 : wr.cell? ⟨gb34001, 2, none⟩ = some (u34002002) := (blk_cell BK34001.out 2).trans rfl
                        have hfz52_0 := blk_frozen BK34001.out 0
                        have hfz52_1 := blk_frozen BK34001.out 1
                        have hfz52_2 := blk_frozen BK34001.out 2
                        obtain ⟨Ao53, co53, eo53⟩ := Kd.V_slice HO_34002002.out
                        subst eo53
                        have hcz54_0 : wr.cell? ⟨gb34002, 0, none⟩ = some (.int .i64 0) := (blk_cell BK34002.out 0).trans rfl
                        have hcz54_1 : wr.cell? ⟨gb34002, 1, none⟩ = some (.slice none 0 0) := (blk_cell BK34002.out 1).trans rfl
                        have hcz54_2 : wr.cell? ⟨gb34002, 2, none⟩ = some (.slice none 0 0) := (blk_cell BK34002.out 2).trans rfl
                        have hfz54_0 := blk_frozen BK34002.out 0
                        have hfz54_1 := blk_frozen BK34002.out 1
                        have hfz54_2 := blk_frozen BK34002.out 2
                        obtain ⟨Ao55, co55, eo55⟩ := Kd.V_slice HO_34002001.out
                        subst eo55
                        go_wp2
                        refine bodyPost_ret (results_ctt rfl _ _ gb34002 44 #[.int .i64 x34002000_4, .slice Ao55 x34002001_4.length co55, .slice Ao53 x34002002_4.length co53] (0, 0) _ rfl (by (with_reducible repeat (first | refine blk_drewN ?_ _ | refine blk_drew ?_ | refine blk_alloc ?_ _)); refine blk_put (cs := #[.int .i64 x34002000_4, .slice Ao55 x34002001_4.length co55, .slice none 0 0]) ?_ 2 _ rfl; (with_reducible repeat (first | refine blk_drewN ?_ _ | refine blk_drew ?_ | refine blk_alloc ?_ _)); refine blk_put (cs := #[.int .i64 x34002000_4, .slice none 0 0, .slice none 0 0]) ?_ 1 _ rfl; (with_reducible repeat (first | refine blk_drewN ?_ _ | refine blk_drew ?_ | refine blk_alloc ?_ _)); refine blk_put (cs := #[.int .i64 0, .slice none 0 0, .slice none 0 0]) ?_ 0 _ rfl; exact blk_ext BK34002.out) Try.underlying44 rfl (by kernel_rfl)) rfl ?_
                        exact ⟨_, _, by first | rfl | (simp [errW_none, errW_some] <;> rfl) | (simp [*, errW_none, errW_some] <;> rfl), Kd.V_ext (Kd.V_mono (Kd.V_far (p := ⟨gb34002, 2, none⟩) (Kd.V_far (p := ⟨gb34002, 1, none⟩) (Kd.V_far (p := ⟨gb34002, 0, none⟩) (Kd.V_mono HO_34002001.out (fun k_ hk => (⟨hk, hk.2.2⟩ : _ ∧ k_ ≠ gb34002))) (fun _ hk => hk.2) (.int .i64 x34002000_4)) (fun _ hk => hk.2) (.slice Ao55 x34002001_4.length co55)) (fun _ hk => hk.2) (.slice Ao53 x34002002_4.length co53)) (fun _ hk => hk.1.1)), Kd.V_ext (Kd.V_mono (Kd.V_far (p := ⟨gb34002, 2, none⟩) (Kd.V_far (p := ⟨gb34002, 1, none⟩) (Kd.V_far (p := ⟨gb34002, 0, none⟩) (Kd.V_mono HO_34002002.out (fun k_ hk => (⟨hk, hk.2.2⟩ : _ ∧ k_ ≠ gb34002))) (fun _ hk => hk.2) (.int .i64 x34002000_4)) (fun _ hk => hk.2) (.slice Ao55 x34002001_4.length co55)) (fun _ hk => hk.2) (.slice Ao53 x34002002_4.length co53)) (fun _ hk => hk.1.1)), below_extB HB.out⟩
          · rw [if_neg c18] at H
            have c18b0 : (x9_15 == 0) = false := beq_eq_false_iff_ne.mpr c18
            have c18b1 : (x9_15 != 0) = true := bne_iff_ne.mpr c18
            simp only [Option.some.injEq, Prod.mk.injEq] at H
            obtain ⟨rfl, rfl, rfl, rfl, rfl⟩ := H
            have hnb56 := NB34002_34001.out
            have hnc56 := NB34001_34002.out
            have hcz57_0 : wc.cell? ⟨gb34002, 0, none⟩ = some (.int .i64 0) := (blk_cell BK34002.out 0).trans rfl
            have hcz57_1 : wc.cell? ⟨gb34002, 1, none⟩ = some (.slice none 0 0) := (blk_cell BK34002.out 1).trans rfl
            have hcz57_2 : wc.cell? ⟨gb34002, 2, none⟩ = some (.slice none 0 0) := (blk_cell BK34002.out 2).trans rfl
            have hfz57_0 := blk_frozen BK34002.out 0
            have hfz57_1 := blk_frozen BK34002.out 1
            have hfz57_2 := blk_frozen BK34002.out 2
            go_wp2
            refine bodyPost_ret (results_ctt rfl _ _ gb34002 44 #[.int .i64 0, .slice none 0 0, .slice none 0 0] (0, 0) _ rfl (by (with_reducible repeat (first | refine blk_drewN ?_ _ | refine blk_drew ?_ | refine blk_alloc ?_ _)); refine blk_put (cs := #[.int .i64 0, .slice none 0 0, .slice none 0 0]) ?_ 2 _ rfl; (with_reducible repeat (first | refine blk_drewN ?_ _ | refine blk_drew ?_ | refine blk_alloc ?_ _)); refine blk_put (cs := #[.int .i64 0, .slice none 0 0, .slice none 0 0]) ?_ 1 _ rfl; (with_reducible repeat (first | refine blk_drewN ?_ _ | refine blk_drew ?_ | refine blk_alloc ?_ _)); refine blk_put (cs := #[.int .i64 0, .slice none 0 0, .slice none 0 0]) ?_ 0 _ rfl; exact blk_ext BK34002.out) Try.underlying44 rfl (by kernel_rfl)) rfl ?_
            exact ⟨_, _, by first | rfl | (simp [errW_none, errW_some] <;> rfl) | (simp [*, errW_none, errW_some] <;> rfl), Kd.V_nil _ _ _ _ _, Kd.V_nil _ _ _ _ _, below_extB HB.out⟩

end Go.Proofs.Ytfljnggpnndmkaa.Z
