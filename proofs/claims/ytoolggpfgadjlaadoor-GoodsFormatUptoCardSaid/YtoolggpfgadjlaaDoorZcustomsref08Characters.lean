/- Printed: a Go function in plain Lean, and that its call does what it says. Conditions: those each theorem states. -/
import Derived.Test.YtoolggpfgadjlaaDoorZ0
namespace Go.Proofs.YtoolggpfgadjlaaDoor.Z
open Go.RowKit Go.Proofs.YtoolggpfgadjlaaDoorW.PrintWords Go.Proofs.YtoolggpfgadjlaaDoorW.PrintLast Go.Proofs.YtoolggpfgadjlaaDoorW.PrintMore
attribute [local go_sem high] str_leq str_geq str_gtr   -- strings
attribute [local go_sem] max2_int min2_int max_two min_two max_three min_three max_four min_four   -- for this text's walks alone
set_option linter.unusedVariables false
set_option linter.unusedSimpArgs false

/-! ### customsref08_Characters: function 21 -/
mutual
def customsref08_Characters.j1 : Nat → List (S38) → Option ((List (S38)))
 | 0, _ => none
 | k + 1, x3 => customsref08_Characters.l1 k x3 ([] : List (S38))
def customsref08_Characters.l1 : Nat → List (S38) → List (S38) → Option ((List (S38)))
 | 0, _, _ => none
 | k + 1, x3, x5 => if (x3.length : Int) > 0 then (customsref08_Characters.l2 k x3 x5 0 1) else (some x5)
def customsref08_Characters.l2 : Nat → List (S38) → List (S38) → Int → Int → Option ((List (S38)))
 | 0, _, _, _, _ => none
 | k + 1, x3, x5, x6, x7 => if x7 < (x3.length : Int) then (if 0 ≤ x7 then (if 0 ≤ x6 then (if x6 < (x3.length : Int) then (if ((rd_T38 x3 x7).f1) > ((rd_T38 x3 x6).f1) then (customsref08_Characters.l2 k x3 x5 x7 (wrap64 (x7 + 1))) else (customsref08_Characters.l2 k x3 x5 x6 (wrap64 (x7 + 1)))) else (none)) else (none)) else (none)) else (if 0 ≤ x6 then (if x6 < (x3.length : Int) then (if x5.length < 4398046511104 then ((some (([] : List (S38)) : List (S38))).bind fun y21022 => (if x6 ≤ (x3.length : Int) then ((some (x3.take (x6 : Int).toNat : List (S38))).bind fun y21025 => (if y21022.length + y21025.length < 4398046511104 then ((some (y21022 ++ y21025 : List (S38))).bind fun y21030 => (if 0 ≤ (wrap64 (x6 + 1)) then (if (wrap64 (x6 + 1)) ≤ (x3.length : Int) then ((some (x3.drop ((wrap64 (x6 + 1)) : Int).toNat : List (S38))).bind fun y21033 => (if y21030.length + y21033.length < 4398046511104 then (customsref08_Characters.l1 k (y21030 ++ y21033) (x5 ++ [(⟨(rd_T38 x3 x6).f0, (rd_T38 x3 x6).f1⟩ : S38)])) else (none))) else (none)) else (none))) else (none))) else (none))) else (none)) else (none)) else (none))
def customsref08_Characters.l0 : Nat → List (S38) → Int → List ByteArray → List (S36) → List (S38) → Bool → Option ((List (S38)))
 | 0, _, _, _, _, _, _ => none
 | k + 1, x3, x4, x21002000, x21002001, x21002002, x21002003 => if x4 < (x21002001.length : Int) then (if 0 ≤ x4 then (if x3.length < 4398046511104 then (customsref08_Characters.l0 k (x3 ++ [(⟨(([(rd_T36 x21002001 x4).f0] : List ByteArray)), (rd_T36 x21002001 x4).f1⟩ : S38)]) (wrap64 (x4 + 1)) x21002000 x21002001 x21002002 x21002003) else (none)) else (none)) else (customsref08_Characters.j1 k x3)
end
def customsref08_Characters.f (k : Nat) (l0_0 : List ByteArray) (l0_1 : List (S36)) (l0_2 : List (S38)) (a0_3 : Bool) : Option ((List (S38))) := (some (([] : List (S38)) : List (S38))).bind fun y21002 => (if y21002.length + l0_2.length < 4398046511104 then ((some (y21002 ++ l0_2 : List (S38))).bind fun y21005 => (if (y21005.length : Int) = 0 then (customsref08_Characters.l0 k y21005 0 l0_0 l0_1 l0_2 a0_3) else (customsref08_Characters.j1 k y21005))) else (none))
theorem customsref08_Characters.mono_l : ∀ k, (∀ y0, LeO (customsref08_Characters.j1 k y0) (customsref08_Characters.j1 (k + 1) y0)) ∧ (∀ y0 y1, LeO (customsref08_Characters.l1 k y0 y1) (customsref08_Characters.l1 (k + 1) y0 y1)) ∧ (∀ y0 y1 y2 y3, LeO (customsref08_Characters.l2 k y0 y1 y2 y3) (customsref08_Characters.l2 (k + 1) y0 y1 y2 y3)) ∧ (∀ y0 y1 y2 y3 y4 y5, LeO (customsref08_Characters.l0 k y0 y1 y2 y3 y4 y5) (customsref08_Characters.l0 (k + 1) y0 y1 y2 y3 y4 y5))
 | 0 => ⟨fun _ r h => by simp [customsref08_Characters.j1] at h, fun _ _ r h => by simp [customsref08_Characters.l1] at h, fun _ _ _ _ r h => by simp [customsref08_Characters.l2] at h, fun _ _ _ _ _ _ r h => by simp [customsref08_Characters.l0] at h⟩
 | k + 1 => by
  obtain ⟨ih0, ih1, ih2, ih3⟩ := customsref08_Characters.mono_l k
  refine ⟨?_, ?_, ?_, ?_⟩ <;> intros
  all_goals first | unfold customsref08_Characters.j1 | unfold customsref08_Characters.l1 | unfold customsref08_Characters.l2 | unfold customsref08_Characters.l0
  all_goals repeat' first
   | (with_reducible exact ih0 _)
   | (with_reducible exact ih1 _ _)
   | (with_reducible exact ih2 _ _ _ _)
   | (with_reducible exact ih3 _ _ _ _ _ _)
   | (with_reducible exact LeO.refl _)
   | (with_reducible exact LeO.none _)
   | (with_reducible refine LeO.ite ?_ ?_)
   | (with_reducible refine LeO.bind ?_ (fun _ => ?_))
   | exact ih0 _
   | exact ih1 _ _
   | exact ih2 _ _ _ _
   | exact ih3 _ _ _ _ _ _
   | exact LeO.none _
   | refine LeO.ite ?_ ?_
   | refine LeO.bind ?_ (fun _ => ?_)
theorem customsref08_Characters.mono : ∀ a0 a1 a2 a3 k, LeO (customsref08_Characters.f k a0 a1 a2 a3) (customsref08_Characters.f (k + 1) a0 a1 a2 a3) := by
 intro a0 a1 a2 a3 k
 obtain ⟨ih0, ih1, ih2, ih3⟩ := customsref08_Characters.mono_l k
 unfold customsref08_Characters.f
 repeat' first
   | (with_reducible exact ih0 _)
   | (with_reducible exact ih1 _ _)
   | (with_reducible exact ih2 _ _ _ _)
   | (with_reducible exact ih3 _ _ _ _ _ _)
   | (with_reducible exact LeO.refl _)
   | (with_reducible exact LeO.none _)
   | (with_reducible refine LeO.ite ?_ ?_)
   | (with_reducible refine LeO.bind ?_ (fun _ => ?_))
   | exact ih0 _
   | exact ih1 _ _
   | exact ih2 _ _ _ _
   | exact ih3 _ _ _ _ _ _
   | exact LeO.none _
   | refine LeO.ite ?_ ?_
   | refine LeO.bind ?_ (fun _ => ?_)
def customsref08_Characters.T6 : Bool × List (List Nat × List Nat) := (true, [([], []), ([], []), ([1], [1]), ([], []), ([2, 3], [2, 3]), ([4], [4]), ([5], [5]), ([6], [6]), ([], []), ([8], [8]), ([], []), ([9, 10], [9, 10]), ([11], [11]), ([12], [12]), ([7, 13], [7, 13]), ([14], [14]), ([0, 15], [0, 15]), ([16, 16, 0, 1, 2, 3, 4, 5, 6, 7, 8, 9, 10, 11, 12, 13, 14, 15, 16], [0, 16])])
def customsref08_Characters.B6 : List Nat := [0, 0, 2, 0, 14, 30, 62, 126, 0, 256, 0, 1792, 3840, 7936, 16382, 32766, 65535, 131071]
theorem customsref08_Characters.tab6 : rtab .any (opsOf Tryd.f21 6) = customsref08_Characters.T6 := by kernel_rfl
theorem customsref08_Characters.bits6 : waitsOk customsref08_Characters.T6.2 customsref08_Characters.B6 = true := by kernel_rfl
def customsref08_Characters.T13 : Bool × List (List Nat × List Nat) := (true, [([], []), ([], []), ([0, 1], [0, 1]), ([2], [2]), ([3], [3]), ([], []), ([], []), ([5, 6], [5, 6]), ([7], [7]), ([8], [8]), ([4, 9], [4, 9])])
def customsref08_Characters.B13 : List Nat := [0, 0, 3, 7, 15, 0, 0, 96, 224, 480, 1023]
theorem customsref08_Characters.tab13 : rtab .any (opsOf Tryd.f21 13) = customsref08_Characters.T13 := by kernel_rfl
theorem customsref08_Characters.bits13 : waitsOk customsref08_Characters.T13.2 customsref08_Characters.B13 = true := by kernel_rfl
def customsref08_Characters.T16 : Bool × List (List Nat × List Nat) := (true, [([], []), ([], []), ([], []), ([1, 2], [1, 2]), ([0, 3], [0, 3]), ([], []), ([], []), ([6], [6]), ([5, 7], [5, 7]), ([4, 8, 4], [4, 8]), ([9, 9, 0, 1, 2, 3, 4, 5, 6, 7, 8, 9], [1, 5, 9])])
def customsref08_Characters.B16 : List Nat := [0, 0, 0, 6, 15, 0, 0, 64, 224, 511, 1023]
theorem customsref08_Characters.tab16 : rtab .any (opsOf Tryd.f21 16) = customsref08_Characters.T16 := by kernel_rfl
theorem customsref08_Characters.bits16 : waitsOk customsref08_Characters.T16.2 customsref08_Characters.B16 = true := by kernel_rfl
set_option maxHeartbeats 8000000 in
set_option maxRecDepth 100000 in
theorem customsref08_Characters.calls (k : Nat) (A0_0 : Option Addr) (c0_0 : Nat) (l0_0 : List ByteArray) (A0_1 : Option Addr) (c0_1 : Nat) (l0_1 : List (S36)) (P0_2_ : Nat → Prop) (A0_2 : Option Addr) (c0_2 : Nat) (l0_2 : List (S38)) (a0_3 : Bool) (r : List (S38)) (w : World) (hr0_0 : Kd.C Kd.string w A0_0 l0_0.length l0_0) (hc0_0 : l0_0.length ≤ c0_0) (hr0_1 : Kd.C k36 w A0_1 l0_1.length l0_1) (hc0_1 : l0_1.length ≤ c0_1) (hs0_2 : Kd.V k38 38 w w.heap.size (fun k_ => P0_2_ k_) (.slice A0_2 l0_2.length c0_2) l0_2) (h : customsref08_Characters.f k l0_0 l0_1 l0_2 a0_3 = some r) :
  Calls Tryd.prog 21 #[.agg #[.slice A0_0 l0_0.length c0_0, .slice A0_1 l0_1.length c0_1, .slice A0_2 l0_2.length c0_2, .bool a0_3]] w fun e w' => ∃ v0_ : Value, e = .returned (v0_) ∧ Kd.N k38 38 w' w.heap.size (fun k_ => (P0_2_ k_ ∨ w.heap.size ≤ k_)) v0_ r ∧ Below w.heap.size w w' := by
 have hu26 := Tryd.underlying26
 have hu38 := Tryd.underlying38
 have HR0_0 := Aside0.mk hr0_0
 have HC0_0 := Aside0.mk hc0_0
 clear hr0_0 hc0_0
 have HR0_1 := Aside0.mk hr0_1
 have HC0_1 := Aside0.mk hc0_1
 clear hr0_1 hc0_1
 have HO0_2 := Aside0.mk (show Kd.V k38 38 w w.heap.size (fun k_ => (P0_2_ k_ ∨ w.heap.size ≤ k_)) (.slice A0_2 l0_2.length c0_2) l0_2 from Kd.V_mono hs0_2 (fun k_ hk => .inl hk))
 have HB := Aside0.mk (Below.refl w.heap.size w)
 have H : ((some (([] : List (S38)) : List (S38))).bind fun y21002 => (if y21002.length + l0_2.length < 4398046511104 then ((some (y21002 ++ l0_2 : List (S38))).bind fun y21005 => (if (y21005.length : Int) = 0 then (customsref08_Characters.l0 k y21005 0 l0_0 l0_1 l0_2 a0_3) else (customsref08_Characters.j1 k y21005))) else (none))) = some r := h
 clear h
 obtain ⟨y21002, hy21002⟩ : ∃ y_ : List (S38), y_ = (([] : List (S38))) := ⟨_, rfl⟩
 replace H : (if y21002.length + l0_2.length < 4398046511104 then ((some (y21002 ++ l0_2 : List (S38))).bind fun y21005 => (if (y21005.length : Int) = 0 then (customsref08_Characters.l0 k y21005 0 l0_0 l0_1 l0_2 a0_3) else (customsref08_Characters.j1 k y21005))) else (none)) = some r := by first | (rw [hy21002]; with_reducible exact H) | (have H2_ := (Option.bind_some _ _).symm.trans H; rw [hy21002]; with_reducible exact H2_) | (have H2_ := (Option.bind_some _ _).symm.trans H; with_reducible exact H2_) | with_reducible exact H | (rw [hy21002]; exact H) | exact H
 have Ny21002 := Aside0.mk hy21002
 clear hy21002
 by_cases c2 : y21002.length + l0_2.length < 4398046511104
 ·
  rw [if_pos c2] at H
  have LMc2 := Aside0.mk c2
  clear c2
  obtain ⟨y21005, hy21005⟩ : ∃ y_ : List (S38), y_ = (y21002 ++ l0_2) := ⟨_, rfl⟩
  replace H : (if (y21005.length : Int) = 0 then (customsref08_Characters.l0 k y21005 0 l0_0 l0_1 l0_2 a0_3) else (customsref08_Characters.j1 k y21005)) = some r := by first | (rw [hy21005]; with_reducible exact H) | (have H2_ := (Option.bind_some _ _).symm.trans H; rw [hy21005]; with_reducible exact H2_) | (have H2_ := (Option.bind_some _ _).symm.trans H; with_reducible exact H2_) | with_reducible exact H | (rw [hy21005]; exact H) | exact H
  have Ny21005 := Aside0.mk hy21005
  clear hy21005
  have HC3 := Aside0.mk H
  clear H
  go_enter Tryd.func21, Tryd.ntmps21
  go_upto_if 14 with (first | ((with_reducible refine gate_dst (N := 1) rfl ?_); refine box_event ?hg (N := 1) ?hd (cs := #[.slice A0_0 l0_0.length c0_0, .slice A0_1 l0_1.length c0_1, .slice A0_2 l0_2.length c0_2, .bool a0_3]) (t := 26) ?hr ?_; (case hd => rfl); (case hg => rfl); (case hr => exact goR); intro gb21001 hg w4 hbox hb; have BK21001 := Aside0.mk (hbox); have GW21001 := gwE hg HB; have GE21001 := GW21001; have GI21001 := GE_.mk GE21001.out; replace HO0_2 := awV HO0_2 hb gb21001 hg; replace HB := mvH HB hb; clear hb hbox hg) | ((with_reducible refine gate_dst (N := 8) rfl ?_); refine Kd.N_lit k38 _ 38 ?hg (N' := 8) ?hd (xs := ([] : List (S38))) (inner := []) (ok := (fun k_ => (P0_2_ k_ ∨ w.heap.size ≤ k_) ∧ k_ ≠ gb21001)) (okp := (fun k_ => (P0_2_ k_ ∨ w.heap.size ≤ k_) ∧ k_ ≠ gb21001)) ?hr ?hp (fun _ hk => hk) ((show ∀ k_, w4.heap.size ≤ k_ → (fun k_ => (P0_2_ k_ ∨ w.heap.size ≤ k_) ∧ k_ ≠ gb21001) k_ from fun k_ hk => ⟨(.inr (Nat.le_trans (below_size (below_extB HB.out)) hk)), Kd.freshB (g := gb21001) (o := .cells #[.slice A0_0 l0_0.length c0_0, .slice A0_1 l0_1.length c0_1, .slice A0_2 l0_2.length c0_2, .bool a0_3] 26 (0, 0)) (blk_ext BK21001.out) k_ hk⟩) _ (Nat.le_refl _)) (Below.refl _ _) (Nat.le_refl _) (by simp) ?_; (case hd => rfl); (case hg => rfl); (case hr => exact goR); (case hp => exact (Reps.none _ _)); intro v21003 w5 ho6 hb hg_ hnew_; clear hg_ hnew_; (first | rw [← Ny21002.out] at ho6 | (simp only [Int.reduceToNat] at ho6; rw [← Ny21002.out] at ho6)); have HO21004 := Aside0.mk (Kd.N_lower ho6 (below_size (below_extB HB.out))); replace HO0_2 := apV HO0_2 hb (Kd.N_base ho6); replace BK21001 := mvB BK21001 hb; replace HB := mvH HB hb; clear hb ho6; obtain ⟨hcz7_0, hcz7_1, hcz7_2, hcz7_3, hfz7_0, hfz7_1, hfz7_2, hfz7_3⟩ := bk4 BK21001.out) | ((with_reducible refine gate_builtin (b := .append) (xs := #[.tmp 8, .tmp 10]) rfl ?_); at_builtin; refine Kd.N_append_rows k38 (w0 := w) w.heap.size rfl (.tmp 8) (.tmp 10) 24 38 (.agg #[(.slice none 0 0), (.int .i64 0)]) 32 rfl Tryd.underlying24 info38 rfl (by decide) (by omega) v21003 y21002 l0_2 _ _ _ (fun k_ => (P0_2_ k_ ∨ w.heap.size ≤ k_) ∧ k_ ≠ gb21001) (fun k_ => ((fun k_ => (P0_2_ k_ ∨ w.heap.size ≤ k_) ∧ k_ ≠ gb21001)) k_ ∧ some k_ ≠ (v21003 : Value).ownBlock) rfl rfl ?aO ?aR (fun _ hk => hk) ?aF ?aB ?aS ?aL ?_; (case aR => exact (by skip; exact Kd.V_F (Kd.V_mono (ok' := (fun k_ => ((fun k_ => (P0_2_ k_ ∨ w.heap.size ≤ k_) ∧ k_ ≠ gb21001)) k_ ∧ some k_ ≠ (v21003 : Value).ownBlock)) (HO0_2.out) (fun k_ hk => ⟨⟨hk.1.1, hk.1.2⟩, hk.2⟩)))); (case aB => exact (below_extB HB.out)); (case aF => exact (fun k_ hk => ⟨(.inr (Nat.le_trans (below_size (below_extB HB.out)) hk)), Kd.freshB (g := gb21001) (o := .cells #[.slice A0_0 l0_0.length c0_0, .slice A0_1 l0_1.length c0_1, .slice A0_2 l0_2.length c0_2, .bool a0_3] 26 (0, 0)) (blk_ext BK21001.out) k_ hk⟩)); (case aO => exact (Kd.N_ext HO21004.out)); (case aS => exact (below_size (below_extB HB.out))); (case aL => have := LMc2.out; omega); intro v21006 w8 ho hb hg hat; rw [← Ny21005.out] at ho; replace HO0_2 := Aside0.mk (Kd.V_afterv (ok := (fun k_ => (P0_2_ k_ ∨ w.heap.size ≤ k_) ∧ k_ ≠ gb21001)) (Kd.V_ext HO0_2.out) hg hat); replace BK21001 := Aside0.mk (blk_grown (g := gb21001) (o := .cells #[.slice A0_0 l0_0.length c0_0, .slice A0_1 l0_1.length c0_1, .slice A0_2 l0_2.length c0_2, .bool a0_3] 26 (0, 0)) (blk_ext BK21001.out) hg (Kd.N_ne HO21004.out BK21001.out (by decide))); replace HB := Aside0.mk (hb); have HO21007 := Aside0.mk (ho); clear HO21004; clear ho hb hg hat; obtain ⟨Ao9, co9, eo9⟩ := Kd.N_slice HO21007.out; subst eo9))
  (try simp only [Act.put, List.setIfInBounds_toArray, List.set_cons_zero, List.set_cons_succ])
  go_cut [3] (fun v3 wc => ∃ (kq : Nat) (x3_2 : List (S38)), Aside0 (customsref08_Characters.j1 kq x3_2 = some r) ∧ Aside0 (kq ≤ k) ∧ Aside0 (Kd.N k38 38 wc w.heap.size (fun k_ => (P0_2_ k_ ∨ w.heap.size ≤ k_)) v3 x3_2) ∧ Aside0 (Below w.heap.size w wc))
  case first =>
   have H := HC3.out
   clear HC3
   by_cases c10 : (y21005.length : Int) = 0
   ·
    rw [if_pos c10] at H
    have c10b0 : ((y21005.length : Int) == 0) = true := beq_iff_eq.mpr c10
    have c10b1 : ((y21005.length : Int) != 0) = false := bne_eq_false_iff_eq.mpr c10
    clear c10
    (first | rw [c10b0] | (simp only [i64_w, i32_w]; rw [c10b0]) | rw [c10b1] | skip)
    have H' := Aside0.mk H
    clear H
    go_wp2
    go_loopg [3, 4] k (fun kq v3 v4 w' => ∃ (x3_1 : List (S38)) (x4_1 : Int), v4 = .int .i64 x4_1 ∧ Aside0 (customsref08_Characters.l0 kq x3_1 x4_1 l0_0 l0_1 l0_2 a0_3 = some r) ∧ Aside0 (kq ≤ k) ∧ Aside0 (Kd.N k38 38 w' w.heap.size (fun k_ => (P0_2_ k_ ∨ w.heap.size ≤ k_) ∧ k_ ≠ gb21001) v3 x3_1) ∧ Aside0 (Kd.V k38 38 w' w.heap.size (fun k_ => (P0_2_ k_ ∨ w.heap.size ≤ k_) ∧ some k_ ≠ (v3 : Value).ownBlock ∧ k_ ≠ gb21001) (.slice A0_2 l0_2.length c0_2) l0_2) ∧ Aside0 (w'.heap[gb21001]? = some (.cells #[(.slice A0_0 l0_0.length c0_0), (.slice A0_1 l0_1.length c0_1), (.slice A0_2 l0_2.length c0_2), .bool a0_3] 26 (0, 0))) ∧ Aside0 (Below w.heap.size w w'))
    case atStart => exact ⟨(y21005), (0), rls, H', ⟨Nat.le_refl _⟩, ⟨Kd.N_ext HO21007.out⟩, ⟨Kd.V_ext (Kd.V_mono HO0_2.out (fun _ hk => ⟨hk.1.1, ⟨hk.2, hk.1.2⟩⟩))⟩, ⟨blk_ext BK21001.out⟩, ⟨below_extB HB.out⟩⟩
    case round =>
     clear H'
     try clear c1
     try clear c2
     try clear p2
     try clear c10
     try clear c10b0
     try clear c10b1
     try clear hcz7_0 hcz7_1 hcz7_2 hcz7_3
     try clear hfz7_0 hfz7_1 hfz7_2 hfz7_3
     obtain ⟨x3_1, x4_1, rfl, HA, HK1, HO_3, HO_21002002, BK21001, HB⟩ := hrel
     cases gk with
     | zero => exact absurd HA.out (by simp [customsref08_Characters.l0])
     | succ k1 =>
      have H := HA.out
      clear HA
      simp only [customsref08_Characters.l0] at H
      by_cases c11 : x4_1 < (l0_1.length : Int)
      ·
       rw [if_pos c11] at H
       have c11b0 : decide (x4_1 < (l0_1.length : Int)) = true := decide_eq_true c11
       clear c11
       replace H := if_some H; obtain ⟨c12, H⟩ := H
       have c12b0 : decide (0 ≤ x4_1) = true := decide_eq_true c12
       clear c12
       obtain ⟨y21009, hy21009⟩ : ∃ y_ : List ByteArray, y_ = (([(rd_T36 l0_1 x4_1).f0] : List ByteArray)) := ⟨_, rfl⟩
       replace H : (if x3_1.length < 4398046511104 then (customsref08_Characters.l0 k1 (x3_1 ++ [(⟨y21009, (rd_T36 l0_1 x4_1).f1⟩ : S38)]) (wrap64 (x4_1 + 1)) l0_0 l0_1 l0_2 a0_3) else (none)) = some r := by first | (rw [hy21009]; with_reducible exact H) | (have H2_ := (Option.bind_some _ _).symm.trans H; rw [hy21009]; with_reducible exact H2_) | (have H2_ := (Option.bind_some _ _).symm.trans H; with_reducible exact H2_) | with_reducible exact H | (rw [hy21009]; exact H) | exact H
       have Ny21009 := Aside0.mk hy21009
       clear hy21009
       replace H := if_some H; obtain ⟨c13, H⟩ := H
       have LMc13 := Aside0.mk c13
       clear c13
       obtain ⟨y21013, hy21013⟩ : ∃ y_ : List (S38), y_ = (x3_1 ++ [(⟨y21009, (rd_T36 l0_1 x4_1).f1⟩ : S38)]) := ⟨_, rfl⟩
       replace H : (customsref08_Characters.l0 k1 y21013 (wrap64 (x4_1 + 1)) l0_0 l0_1 l0_2 a0_3) = some r := by first | (rw [hy21013]; with_reducible exact H) | (have H2_ := (Option.bind_some _ _).symm.trans H; rw [hy21013]; with_reducible exact H2_) | (have H2_ := (Option.bind_some _ _).symm.trans H; with_reducible exact H2_) | with_reducible exact H | (rw [hy21013]; exact H) | exact H
       have Ny21013 := Aside0.mk hy21013
       clear hy21013
       have H' := Aside0.mk H
       clear H
       obtain ⟨hcz14_0, hcz14_1, hcz14_2, hcz14_3, hfz14_0, hfz14_1, hfz14_2, hfz14_3⟩ := bk4 BK21001.out
       try go_wp2
       replace HO_3 := Aside0.mk (Kd.N_drew HO_3.out)
       replace HO_21002002 := Aside0.mk (Kd.V_drew HO_21002002.out)
       replace BK21001 := Aside0.mk (blk_drew BK21001.out)
       replace HB := Aside0.mk (below_drew1 HB.out)
       have p21008 : 0 ≤ (x4_1 : Int) := odt
       have q21008 : x4_1 < (l0_1.length : Int) := odt
       obtain ⟨ad21008, e21008, hx21008_0, hx21008_1⟩ := at_T36 HR0_1.out x4_1 p21008 q21008
       have hw21008_1 := hx21008_1
       have hw21008_0 := hx21008_0
       cases e21008
       (try replace hx21008_0 := (HB.out.cell (World.block_lt_of_cell? w _ hx21008_0)).trans hx21008_0)
       (try replace hx21008_1 := (HB.out.cell (World.block_lt_of_cell? w _ hx21008_1)).trans hx21008_1)
       replace p21008 := eq_true p21008
       replace q21008 := eq_true q21008
       have p21012 : 0 ≤ (x4_1 : Int) := odt
       have q21012 : x4_1 < (l0_1.length : Int) := odt
       obtain ⟨ad21012, e21012, hx21012_0, hx21012_1⟩ := at_T36 HR0_1.out x4_1 p21012 q21012
       have hw21012_1 := hx21012_1
       have hw21012_0 := hx21012_0
       obtain rfl : ad21008 = ad21012 := (by injection e21012)
       (try replace hx21012_0 := (HB.out.cell (World.block_lt_of_cell? w _ hx21012_0)).trans hx21012_0)
       (try replace hx21012_1 := (HB.out.cell (World.block_lt_of_cell? w _ hx21012_1)).trans hx21012_1)
       replace p21012 := eq_true p21012
       replace q21012 := eq_true q21012
       refine start_ (n := 18) (S := fun w' => w'.cell? ⟨gb21001, 0, none⟩ = some (.slice A0_0 l0_0.length c0_0) ∧ w'.cell? ⟨gb21001, 1, none⟩ = some (.slice (some ad21008) l0_1.length c0_1) ∧ w'.cell? ⟨gb21001, 2, none⟩ = some (.slice A0_2 l0_2.length c0_2) ∧ w'.cell? ⟨gb21001, 3, none⟩ = some (.bool a0_3) ∧ w'.cell? (ad21008.add ((x4_1).toNat * 2)) = some (.string ((rd_T36 l0_1 x4_1).f0)) ∧ w'.cell? ⟨(ad21008.add ((x4_1).toNat * 2)).block, (ad21008.add ((x4_1).toNat * 2)).off + 1, none⟩ = some (.int .i64 ((rd_T36 l0_1 x4_1).f1)) ∧ w'.cell? (ad21008.add ((x4_1).toNat * 2)) = some (.string ((rd_T36 l0_1 x4_1).f0)) ∧ w'.cell? ⟨(ad21008.add ((x4_1).toNat * 2)).block, (ad21008.add ((x4_1).toNat * 2)).off + 1, none⟩ = some (.int .i64 ((rd_T36 l0_1 x4_1).f1))) (ds := []) #[false, false, false, false, false, false, false, false, false, false, false, false, false, false, false, false, false, false] (by kernel_rfl) rfl rfl ⟨bc BK21001 0, bc BK21001 1, bc BK21001 2, bc BK21001 3, (by first | exact (HB.out.cell (World.block_lt_of_cell? w _ hw21008_0)).trans hw21008_0 | exact hw21008_0), (by first | exact (HB.out.cell (World.block_lt_of_cell? w _ hw21008_1)).trans hw21008_1 | exact hw21008_1), (by first | exact (HB.out.cell (World.block_lt_of_cell? w _ hw21012_0)).trans hw21012_0 | exact hw21012_0), (by first | exact (HB.out.cell (World.block_lt_of_cell? w _ hw21012_1)).trans hw21012_1 | exact hw21012_1)⟩ (fun hHeld => ?_); refine with_tabW customsref08_Characters.tab6 customsref08_Characters.bits6 (fun HT_ HW_ => ?_)
       generalize wr.drew = w15 at HO_3 HO_21002002 BK21001 HB hx21008_0 hx21008_1 hx21012_0 hx21012_1 hHeld ⊢
       refine purE 0 (some 22) HT_ ?_
       refine purE 1 (some 23) HT_ ?_
       refine purE 3 (some 25) HT_ ?_
       refine purE 8 (some 30) HT_ ?_
       refine purE 10 (some 32) HT_ ?_
       refine tkE 2 (some 24) HT_ HW_ hHeld ?_ (hy := by rintro w' ⟨s0, s1, s2, s3, s4, s5, s6, s7⟩; go_simp; with_reducible rfl)
       refine purE 4 (some 26) HT_ ?_
       refine purE 5 (some 27) HT_ ?_
       refine tkE 6 (some 28) HT_ HW_ hHeld ?_ (hy := by rintro w' ⟨s0, s1, s2, s3, s4, s5, s6, s7⟩; go_simp; with_reducible rfl)
       refine tkE 9 (some 31) HT_ HW_ hHeld ?_ (hy := by rintro w' ⟨s0, s1, s2, s3, s4, s5, s6, s7⟩; go_simp; with_reducible rfl)
       refine purE 11 (some 33) HT_ ?_
       refine purE 12 (some 34) HT_ ?_
       refine tkE 13 (some 35) HT_ HW_ hHeld ?_ (hy := by rintro w' ⟨s0, s1, s2, s3, s4, s5, s6, s7⟩; go_simp; with_reducible rfl)
       refine oneE 7 (some 29) HT_ (fun K hK => ?_)
       refine Kd.R_lit_step Kd.string _ 9 ?hg (N := 29) ?hd (xs := ([(rd_T36 l0_1 x4_1).f0] : List ByteArray)) (inner := [.string ((rd_T36 l0_1 x4_1).f0)]) (ok := fun _ => True) (okp := fun _ => True) ?hr ?hp (fun _ hk => hk) trivial (Below.refl _ _) (Nat.le_refl _) (by simp) ?_; (case hd => rfl); (case hg => rfl); (case hr => exact goR); (case hp => exact (Reps.one (show Kd.M Kd.string _ _ _ ((rd_T36 l0_1 x4_1).f0) [.string ((rd_T36 l0_1 x4_1).f0)] from rfl) (Reps.none _ _)))
       intro v21010 w16 ho17 hb hg_ hnew_
       clear hg_ hnew_
       (first | rw [← Ny21009.out] at ho17 | (simp only [Int.reduceToNat] at ho17; rw [← Ny21009.out] at ho17))
       have HO21011 := Aside0.mk (Kd.R_lower (Kd.R_newM (M := fun k_ => (w.heap.size ≤ k_)) ho17 (below_size (below_extB HB.out)) (fun k_ h_ => h_)) (below_size (below_extB HB.out)))
       replace HO_3 := apN HO_3 hb (Kd.R_base ho17)
       replace HO_21002002 := apV HO_21002002 hb (Kd.R_base ho17)
       replace BK21001 := mvB BK21001 hb
       replace HB := mvH HB hb
       clear hb ho17
       obtain ⟨Ao18, co18, eo18⟩ := Kd.R_slice HO21011.out
       (first | subst eo18 | (injection eo18 with f1_ f2_ f3_; have f4_ := f1_.symm; have f5_ := f3_.symm; clear f1_ f2_ f3_; subst f4_; subst f5_))
       refine hK.out _ _ ⟨bc BK21001 0, bc BK21001 1, bc BK21001 2, bc BK21001 3, (by first | exact (HB.out.cell (World.block_lt_of_cell? w _ hw21008_0)).trans hw21008_0 | exact hw21008_0), (by first | exact (HB.out.cell (World.block_lt_of_cell? w _ hw21008_1)).trans hw21008_1 | exact hw21008_1), (by first | exact (HB.out.cell (World.block_lt_of_cell? w _ hw21012_0)).trans hw21012_0 | exact hw21012_0), (by first | exact (HB.out.cell (World.block_lt_of_cell? w _ hw21012_1)).trans hw21012_1 | exact hw21012_1)⟩ (fun hHeld => ?_)
       clear hK K
       refine nrmE (some 29) ?_
       refine purE 14 (some 36) HT_ ?_
       refine oneE 15 (some 37) HT_ (fun K hK => ?_)
       refine value_ (w1 := ?_) (v := ?_) (by rfl) rfl ?_ ?_
       rotate_left 2
       ·
        go_simp
        constructor
        ·
         rfl
        ·
         rfl
       refine hK.out _ _ ⟨(blk_cell (blk_alloc BK21001.out _) 0).trans rfl, (blk_cell (blk_alloc BK21001.out _) 1).trans rfl, (blk_cell (blk_alloc BK21001.out _) 2).trans rfl, (blk_cell (blk_alloc BK21001.out _) 3).trans rfl, (World.cell?_alloc_lt _ _ _ (World.block_lt_of_cell? _ _ ((by first | exact (HB.out.cell (World.block_lt_of_cell? w _ hw21008_0)).trans hw21008_0 | exact hw21008_0)))).trans ((by first | exact (HB.out.cell (World.block_lt_of_cell? w _ hw21008_0)).trans hw21008_0 | exact hw21008_0)), (World.cell?_alloc_lt _ _ _ (World.block_lt_of_cell? _ _ ((by first | exact (HB.out.cell (World.block_lt_of_cell? w _ hw21008_1)).trans hw21008_1 | exact hw21008_1)))).trans ((by first | exact (HB.out.cell (World.block_lt_of_cell? w _ hw21008_1)).trans hw21008_1 | exact hw21008_1)), (World.cell?_alloc_lt _ _ _ (World.block_lt_of_cell? _ _ ((by first | exact (HB.out.cell (World.block_lt_of_cell? w _ hw21012_0)).trans hw21012_0 | exact hw21012_0)))).trans ((by first | exact (HB.out.cell (World.block_lt_of_cell? w _ hw21012_0)).trans hw21012_0 | exact hw21012_0)), (World.cell?_alloc_lt _ _ _ (World.block_lt_of_cell? _ _ ((by first | exact (HB.out.cell (World.block_lt_of_cell? w _ hw21012_1)).trans hw21012_1 | exact hw21012_1)))).trans ((by first | exact (HB.out.cell (World.block_lt_of_cell? w _ hw21012_1)).trans hw21012_1 | exact hw21012_1))⟩ (fun hHeld => ?_)
       clear hK K
       refine nrmE (some 37) ?_
       refine oneE 16 (some 38) HT_ (fun K hK => ?_)
       refine Kd.N_append_step k38 (w0 := w) w.heap.size (by rfl) (.tmp 22) (.tmp 37) 24 38 (.agg #[(.slice none 0 0), (.int .i64 0)]) 32 rfl Tryd.underlying24 info38 rfl (by decide) (by omega) u3 x3_1 (⟨y21009, (rd_T36 l0_1 x4_1).f1⟩ : S38) [.slice Ao18 y21009.length co18, .int .i64 ((rd_T36 l0_1 x4_1).f1)] (fun k_ => (P0_2_ k_ ∨ w.heap.size ≤ k_) ∧ k_ ≠ gb21001) (fun k_ => ((fun k_ => (P0_2_ k_ ∨ w.heap.size ≤ k_) ∧ k_ ≠ gb21001)) k_ ∧ some k_ ≠ (u3 : Value).ownBlock) rfl rfl ?aP (fun _ hk => hk) ?aF ?aO ?aB ?aS ?aL ?_
       (case aP => exact (k38_mkF _ _ (⟨y21009, (rd_T36 l0_1 x4_1).f1⟩ : S38) (Kd.R_reads' (Kd.R_mono (ok' := (fun k_ => ((fun k_ => (P0_2_ k_ ∨ w.heap.size ≤ k_) ∧ k_ ≠ gb21001)) k_ ∧ some k_ ≠ (u3 : Value).ownBlock)) (Kd.R_types (Kd.R_apart' (HO21011.out) (Kd.N_typed HO_3.out) (by decide)) BK21001.out (by decide)) (fun k_ hk => ⟨⟨(.inr (hk.1.1.1)), hk.2⟩, hk.1.2⟩))).2.1 (Kd.R_F (Kd.R_mono (ok' := (fun k_ => ((fun k_ => (P0_2_ k_ ∨ w.heap.size ≤ k_) ∧ k_ ≠ gb21001)) k_ ∧ some k_ ≠ (u3 : Value).ownBlock)) (Kd.R_types (Kd.R_apart' (HO21011.out) (Kd.N_typed HO_3.out) (by decide)) BK21001.out (by decide)) (fun k_ hk => ⟨⟨(.inr (hk.1.1.1)), hk.2⟩, hk.1.2⟩)))))
       (case aB => exact (below_extB HB.out))
       (case aF => exact (fun k_ hk => ⟨(.inr (Nat.le_trans (below_size (below_extB HB.out)) hk)), Kd.freshB (g := gb21001) (o := .cells #[.slice A0_0 l0_0.length c0_0, .slice (some ad21008) l0_1.length c0_1, .slice A0_2 l0_2.length c0_2, .bool a0_3] 26 (0, 0)) (blk_ext BK21001.out) k_ hk⟩))
       (case aO => exact (Kd.N_ext (Kd.N_mono HO_3.out (fun _ hk => ⟨hk.1.1, hk.1.2⟩))))
       (case aS => exact (below_size (below_extB HB.out)))
       (case aL => have := LMc13.out; omega)
       intro v21014 w19 ho hb hg hat
       rw [← Ny21013.out] at ho
       replace HO_21002002 := Aside0.mk (Kd.V_afterv (ok := (fun k_ => (P0_2_ k_ ∨ w.heap.size ≤ k_) ∧ some k_ ≠ (.slice Ao18 y21009.length co18 : Value).ownBlock ∧ k_ ≠ gb21001)) (Kd.V_ext (Kd.V_mono HO_21002002.out (fun _ hk => ⟨⟨hk.1.1, ⟨hk.2, hk.1.2.2⟩⟩, hk.1.2.1⟩))) hg hat)
       replace BK21001 := Aside0.mk (blk_grown (g := gb21001) (o := .cells #[.slice A0_0 l0_0.length c0_0, .slice (some ad21008) l0_1.length c0_1, .slice A0_2 l0_2.length c0_2, .bool a0_3] 26 (0, 0)) (blk_ext BK21001.out) hg (Kd.N_ne HO_3.out BK21001.out (by decide)))
       replace HB := Aside0.mk (hb)
       have HO21015 := Aside0.mk (ho)
       clear HO_3
       clear HO21011
       clear ho hb hg hat
       refine hK.out _ _ ⟨bc BK21001 0, bc BK21001 1, bc BK21001 2, bc BK21001 3, (by first | exact (HB.out.cell (World.block_lt_of_cell? w _ hw21008_0)).trans hw21008_0 | exact hw21008_0), (by first | exact (HB.out.cell (World.block_lt_of_cell? w _ hw21008_1)).trans hw21008_1 | exact hw21008_1), (by first | exact (HB.out.cell (World.block_lt_of_cell? w _ hw21012_0)).trans hw21012_0 | exact hw21012_0), (by first | exact (HB.out.cell (World.block_lt_of_cell? w _ hw21012_1)).trans hw21012_1 | exact hw21012_1)⟩ (fun hHeld => ?_)
       clear hK K
       refine nrmE (some 38) ?_
       refine purE 17 (some 3) HT_ ?_
       refine done_ (done_of HT_.out (by kernel_rfl)) ?_
       try go_wp2
       go_roundg k1
       case measure => have := HK1.out; omega
       case rel => exact ⟨(y21013), (wrap64 (x4_1 + 1)), rls, H', ⟨by have := HK1.out; omega⟩, ⟨Kd.N_ext HO21015.out⟩, ⟨Kd.V_ext (Kd.V_mono HO_21002002.out (fun _ hk => ⟨hk.1.1, ⟨hk.2, hk.1.2.2⟩⟩))⟩, ⟨blk_ext BK21001.out⟩, ⟨below_extB HB.out⟩⟩
      ·
       rw [if_neg c11] at H
       have c11b0 : decide (x4_1 < (l0_1.length : Int)) = false := decide_eq_false c11
       clear c11
       have H' := Aside0.mk H
       clear H
       obtain ⟨hcz20_0, hcz20_1, hcz20_2, hcz20_3, hfz20_0, hfz20_1, hfz20_2, hfz20_3⟩ := bk4 BK21001.out
       go_wp2
       go_meet
       case rel => exact ⟨_, (x3_1), H', ⟨by have := HK1.out; first | omega | exact Nat.le_refl _⟩, ⟨Kd.N_ext (Kd.N_mono HO_3.out (fun _ hk => hk.1))⟩, ⟨below_extB HB.out⟩⟩
   ·
    rw [if_neg c10] at H
    have c10b0 : ((y21005.length : Int) == 0) = false := beq_eq_false_iff_ne.mpr c10
    have c10b1 : ((y21005.length : Int) != 0) = true := bne_iff_ne.mpr c10
    have c10b2 : ¬ (y21005 = []) := fun h_ => c10 (by rw [h_]; rfl)
    (first | rw [c10b0] | (simp only [i64_w, i32_w]; rw [c10b0]) | rw [c10b1] | skip)
    have H' := Aside0.mk H
    clear H
    go_wp2
    go_meet
    case rel => exact ⟨_, (y21005), H', ⟨by first | omega | exact Nat.le_refl _⟩, ⟨Kd.N_ext (Kd.N_mono HO21007.out (fun _ hk => hk.1))⟩, ⟨below_extB HB.out⟩⟩
  case rest =>
   clear HC3
   try clear c1
   try clear c2
   try clear p2
   try clear q2
   try clear hx2
   try clear p6
   try clear c10
   try clear c10b0
   try clear c10b1
   try clear c10b2
   try clear c11
   try clear c11b0
   try clear c12
   try clear c12b0
   try clear c13
   try clear hcz14_0 hcz14_1 hcz14_2 hcz14_3
   try clear hcz20_0 hcz20_1 hcz20_2 hcz20_3
   try clear hcz7_0 hcz7_1 hcz7_2 hcz7_3
   try clear hfz14_0 hfz14_1 hfz14_2 hfz14_3
   try clear hfz20_0 hfz20_1 hfz20_2 hfz20_3
   try clear hfz7_0 hfz7_1 hfz7_2 hfz7_3
   try clear hx21008_0
   try clear hx21008_1
   try clear hx21012_0
   try clear hx21012_1
   try clear p2
   try clear p21008
   try clear p21012
   try clear q21008
   try clear q21012
   obtain ⟨kq, x3_2, HA, HJ2, HO_3, HB⟩ := hcut
   cases kq with
   | zero => exact absurd HA.out (by simp [customsref08_Characters.j1])
   | succ kj2 =>
    have H := HA.out
    clear HA
    simp only [customsref08_Characters.j1] at H
    have H' := Aside0.mk H
    clear H
    go_wp2
    go_loopg [3, 5] kj2 (fun kq v3 v5 w' => ∃ (x3_2 : List (S38)) (x5_2 : List (S38)), Aside0 (customsref08_Characters.l1 kq x3_2 x5_2 = some r) ∧ Aside0 (kq ≤ kj2) ∧ Aside0 (Kd.N k38 38 w' w.heap.size (fun k_ => (P0_2_ k_ ∨ w.heap.size ≤ k_) ∧ some k_ ≠ (v5 : Value).ownBlock) v3 x3_2) ∧ Aside0 (Kd.N k38 38 w' w.heap.size (fun k_ => (P0_2_ k_ ∨ w.heap.size ≤ k_) ∧ some k_ ≠ (v3 : Value).ownBlock) v5 x5_2) ∧ Aside0 (Below w.heap.size w w'))
    case atStart => exact ⟨(x3_2), (([] : List (S38))), H', ⟨Nat.le_refl _⟩, ⟨Kd.N_ext (Kd.N_mono HO_3.out (fun _ hk => ⟨hk, (by simp [Value.ownBlock])⟩))⟩, ⟨by first | exact Kd.S_nil _ _ _ _ _ | exact Kd.N_nil _ _ _ _ _ | exact Kd.V_nil _ _ _ _ _ | exact Kd.Q_nil _ _ _ _ _ | exact Kd.R_nil _ _ _ _ _⟩, ⟨below_ext HB.out⟩⟩
    case round =>
     clear H'
     try clear c1
     try clear c2
     try clear p2
     try clear q2
     try clear hx2
     try clear p6
     try clear c10
     try clear c10b0
     try clear c10b1
     try clear c10b2
     try clear c11
     try clear c11b0
     try clear c12
     try clear c12b0
     try clear c13
     try clear hcz14_0 hcz14_1 hcz14_2 hcz14_3
     try clear hcz20_0 hcz20_1 hcz20_2 hcz20_3
     try clear hcz7_0 hcz7_1 hcz7_2 hcz7_3
     try clear hfz14_0 hfz14_1 hfz14_2 hfz14_3
     try clear hfz20_0 hfz20_1 hfz20_2 hfz20_3
     try clear hfz7_0 hfz7_1 hfz7_2 hfz7_3
     try clear hx21008_0
     try clear hx21008_1
     try clear hx21012_0
     try clear hx21012_1
     try clear p2
     try clear p21008
     try clear p21012
     try clear p6
     try clear q2
     try clear q21008
     try clear q21012
     obtain ⟨x3_2, x5_2, HA, HK2, HO_3, HO_5, HB⟩ := hrel
     cases gk with
     | zero => exact absurd HA.out (by simp [customsref08_Characters.l1])
     | succ k2 =>
      have H := HA.out
      clear HA
      simp only [customsref08_Characters.l1] at H
      by_cases c21 : (x3_2.length : Int) > 0
      ·
       rw [if_pos c21] at H
       have c21b0 : decide (0 < (x3_2.length : Int)) = true := decide_eq_true c21
       have c21b1 : decide (0 < x3_2.length) = true := decide_eq_true (by omega)
       have c21b9 : (0 < x3_2.length) = True := eq_true (of_decide_eq_true c21b1)
       clear c21
       have H' := Aside0.mk H
       clear H
       obtain ⟨Ao22, co22, eo22⟩ := Kd.N_slice HO_3.out
       subst eo22
       go_wp2
       go_loopg [6, 7] k2 (fun kq v6 v7 w' => ∃ (x6_3 : Int) (x7_3 : Int), v6 = .int .i64 x6_3 ∧ v7 = .int .i64 x7_3 ∧ Aside0 (customsref08_Characters.l2 kq x3_2 x5_2 x6_3 x7_3 = some r) ∧ Aside0 (kq ≤ k2) ∧ Aside0 (Kd.N k38 38 w' w.heap.size (fun k_ => (P0_2_ k_ ∨ w.heap.size ≤ k_) ∧ some k_ ≠ (u5 : Value).ownBlock) (.slice Ao22 x3_2.length co22) x3_2) ∧ Aside0 (Kd.N k38 38 w' w.heap.size (fun k_ => (P0_2_ k_ ∨ w.heap.size ≤ k_) ∧ some k_ ≠ ((.slice Ao22 x3_2.length co22) : Value).ownBlock) u5 x5_2) ∧ Aside0 (Below w.heap.size w w'))
       case atStart => exact ⟨(0), (1), rls, rls, H', ⟨Nat.le_refl _⟩, ⟨Kd.N_ext HO_3.out⟩, ⟨Kd.N_ext HO_5.out⟩, ⟨below_ext HB.out⟩⟩
       case round =>
        clear H'
        try clear c1
        try clear c2
        try clear p2
        try clear q2
        try clear hx2
        try clear p6
        try clear c10
        try clear c10b0
        try clear c10b1
        try clear c10b2
        try clear c11
        try clear c11b0
        try clear c12
        try clear c12b0
        try clear c13
        try clear c21
        try clear c21b0
        try clear c21b1
        try clear p21
        try clear q21
        try clear hx21
        try clear hcz14_0 hcz14_1 hcz14_2 hcz14_3
        try clear hcz20_0 hcz20_1 hcz20_2 hcz20_3
        try clear hcz7_0 hcz7_1 hcz7_2 hcz7_3
        try clear hfz14_0 hfz14_1 hfz14_2 hfz14_3
        try clear hfz20_0 hfz20_1 hfz20_2 hfz20_3
        try clear hfz7_0 hfz7_1 hfz7_2 hfz7_3
        try clear hx21008_0
        try clear hx21008_1
        try clear hx21012_0
        try clear hx21012_1
        try clear p2
        try clear p21008
        try clear p21012
        try clear p6
        try clear q2
        try clear q21008
        try clear q21012
        obtain ⟨x6_3, x7_3, rfl, rfl, HA, HK3, HO_3, HO_5, HB⟩ := hrel
        cases gk with
        | zero => exact absurd HA.out (by simp [customsref08_Characters.l2])
        | succ k3 =>
         have H := HA.out
         clear HA
         simp only [customsref08_Characters.l2] at H
         by_cases c23 : x7_3 < (x3_2.length : Int)
         ·
          rw [if_pos c23] at H
          have c23b0 : decide (x7_3 < (x3_2.length : Int)) = true := decide_eq_true c23
          clear c23
          replace H := if_some H; obtain ⟨c24, H⟩ := H
          have c24b0 : decide (0 ≤ x7_3) = true := decide_eq_true c24
          clear c24
          replace H := if_some H; obtain ⟨c25, H⟩ := H
          have c25b0 : decide (0 ≤ x6_3) = true := decide_eq_true c25
          clear c25
          replace H := if_some H; obtain ⟨c26, H⟩ := H
          have c26b0 : decide (x6_3 < (x3_2.length : Int)) = true := decide_eq_true c26
          clear c26
          by_cases c27 : ((rd_T38 x3_2 x7_3).f1) > ((rd_T38 x3_2 x6_3).f1)
          ·
           rw [if_pos c27] at H
           have c27b0 : decide (((rd_T38 x3_2 x6_3).f1) < ((rd_T38 x3_2 x7_3).f1)) = true := decide_eq_true c27
           clear c27
           have H' := Aside0.mk H
           clear H
           try go_wp2
           replace HO_3 := Aside0.mk (Kd.N_drew HO_3.out)
           replace HO_5 := Aside0.mk (Kd.N_drew HO_5.out)
           replace HB := Aside0.mk (below_drew1 HB.out)
           have p21016 : 0 ≤ (x7_3 : Int) := odt
           have q21016 : x7_3 < (x3_2.length : Int) := odt
           obtain ⟨ad21016, A21016_0, c21016_0, e21016, hx21016_0, hx21016_1, hl21016_0, hi21016_0⟩ := at_T38 (Kd.N_reads' HO_3.out).2.2 x7_3 p21016 q21016
           cases e21016
           obtain ⟨ce21016, hce21016, hMe21016, hcc21016⟩ := Kd.N_get HO_3.out z38 x7_3 p21016 (by first | exact q21016 | exact odt | (have e_ := (Kd.N_reads' HO_3.out).1; omega))
           obtain ⟨ua21016_0, uc21016_0, rfl, ul21016_0, ge21016_0⟩ := k38_openF hMe21016
           have hv21016_0 := hcc21016 0 _ rfl
           rw [Nat.add_zero] at hv21016_0
           replace hv21016_0 := Option.some.inj (hv21016_0.symm.trans hx21016_0)
           injection hv21016_0 with hva_ hvn_ hvc_
           rw [hva_] at ge21016_0
           rw [hvc_] at ul21016_0
           have HL21016_0 := Aside0.mk (show Kd.V Kd.string 9 _ w.heap.size _ _ ((rd_T38 x3_2 x7_3).f0) from Kd.V_mk ul21016_0 ge21016_0)
           clear hva_ hvn_ hvc_ ge21016_0 ul21016_0
           clear hcc21016 hce21016
           have HR21016_0 := Aside0.mk hi21016_0
           have HC21016_0 := Aside0.mk hl21016_0
           clear hi21016_0 hl21016_0
           replace p21016 := eq_true p21016
           replace q21016 := eq_true q21016
           have p21017 : 0 ≤ (x6_3 : Int) := odt
           have q21017 : x6_3 < (x3_2.length : Int) := odt
           obtain ⟨ad21017, A21017_0, c21017_0, e21017, hx21017_0, hx21017_1, hl21017_0, hi21017_0⟩ := at_T38 (Kd.N_reads' HO_3.out).2.2 x6_3 p21017 q21017
           obtain rfl : ad21016 = ad21017 := (by injection e21017)
           obtain ⟨ce21017, hce21017, hMe21017, hcc21017⟩ := Kd.N_get HO_3.out z38 x6_3 p21017 (by first | exact q21017 | exact odt | (have e_ := (Kd.N_reads' HO_3.out).1; omega))
           obtain ⟨ua21017_0, uc21017_0, rfl, ul21017_0, ge21017_0⟩ := k38_openF hMe21017
           have hv21017_0 := hcc21017 0 _ rfl
           rw [Nat.add_zero] at hv21017_0
           replace hv21017_0 := Option.some.inj (hv21017_0.symm.trans hx21017_0)
           injection hv21017_0 with hva_ hvn_ hvc_
           rw [hva_] at ge21017_0
           rw [hvc_] at ul21017_0
           have HL21017_0 := Aside0.mk (show Kd.V Kd.string 9 _ w.heap.size _ _ ((rd_T38 x3_2 x6_3).f0) from Kd.V_mk ul21017_0 ge21017_0)
           clear hva_ hvn_ hvc_ ge21017_0 ul21017_0
           clear hcc21017 hce21017
           have HR21017_0 := Aside0.mk hi21017_0
           have HC21017_0 := Aside0.mk hl21017_0
           clear hi21017_0 hl21017_0
           replace p21017 := eq_true p21017
           replace q21017 := eq_true q21017
           refine start_ (n := 11) (S := fun w' => w'.cell? (ad21016.add ((x7_3).toNat * 2)) = some (.slice A21016_0 ((rd_T38 x3_2 x7_3).f0).length c21016_0) ∧ w'.cell? ⟨(ad21016.add ((x7_3).toNat * 2)).block, (ad21016.add ((x7_3).toNat * 2)).off + 1, none⟩ = some (.int .i64 ((rd_T38 x3_2 x7_3).f1)) ∧ w'.cell? (ad21016.add ((x6_3).toNat * 2)) = some (.slice A21017_0 ((rd_T38 x3_2 x6_3).f0).length c21017_0) ∧ w'.cell? ⟨(ad21016.add ((x6_3).toNat * 2)).block, (ad21016.add ((x6_3).toNat * 2)).off + 1, none⟩ = some (.int .i64 ((rd_T38 x3_2 x6_3).f1))) (ds := []) #[false, false, false, false, false, false, false, false, false, false, false] (by kernel_rfl) rfl rfl ⟨hx21016_0, hx21016_1, hx21017_0, hx21017_1⟩ (fun hHeld => ?_); refine with_tabW customsref08_Characters.tab13 customsref08_Characters.bits13 (fun HT_ HW_ => ?_)
           generalize wr.drew = w28 at HO_3 HO_5 HB HL21016_0 HL21017_0 HR21016_0 HR21017_0 hx21016_0 hx21016_1 hx21017_0 hx21017_1 hHeld ⊢
           refine purE 0 (some 48) HT_ ?_
           refine purE 1 (some 49) HT_ ?_
           refine purE 2 (some 50) HT_ ?_
           refine purE 3 (some 51) HT_ ?_
           refine purE 5 (some 53) HT_ ?_
           refine purE 6 (some 54) HT_ ?_
           refine purE 7 (some 55) HT_ ?_
           refine purE 8 (some 56) HT_ ?_
           refine tkE 4 (some 52) HT_ HW_ hHeld ?_ (hy := by rintro w' ⟨s0, s1, s2, s3⟩; go_simp; with_reducible rfl)
           refine tkE 9 (some 57) HT_ HW_ hHeld ?_ (hy := by rintro w' ⟨s0, s1, s2, s3⟩; go_simp; with_reducible rfl)
           refine purE 10 (some 58) HT_ ?_
           refine done_ (done_of HT_.out (by kernel_rfl)) ?_
           try go_wp2
           go_roundg k3
           case measure => have := HJ2.out; have := HK2.out; have := HK3.out; omega
           case rel => exact ⟨(x7_3), (wrap64 (x7_3 + 1)), rls, rls, H', ⟨by have := HJ2.out; have := HK2.out; have := HK3.out; omega⟩, ⟨Kd.N_ext HO_3.out⟩, ⟨Kd.N_ext HO_5.out⟩, ⟨below_ext HB.out⟩⟩
          ·
           rw [if_neg c27] at H
           have c27b0 : decide (((rd_T38 x3_2 x6_3).f1) < ((rd_T38 x3_2 x7_3).f1)) = false := decide_eq_false c27
           clear c27
           have H' := Aside0.mk H
           clear H
           try go_wp2
           replace HO_3 := Aside0.mk (Kd.N_drew HO_3.out)
           replace HO_5 := Aside0.mk (Kd.N_drew HO_5.out)
           replace HB := Aside0.mk (below_drew1 HB.out)
           have p21016 : 0 ≤ (x7_3 : Int) := odt
           have q21016 : x7_3 < (x3_2.length : Int) := odt
           obtain ⟨ad21016, A21016_0, c21016_0, e21016, hx21016_0, hx21016_1, hl21016_0, hi21016_0⟩ := at_T38 (Kd.N_reads' HO_3.out).2.2 x7_3 p21016 q21016
           cases e21016
           obtain ⟨ce21016, hce21016, hMe21016, hcc21016⟩ := Kd.N_get HO_3.out z38 x7_3 p21016 (by first | exact q21016 | exact odt | (have e_ := (Kd.N_reads' HO_3.out).1; omega))
           obtain ⟨ua21016_0, uc21016_0, rfl, ul21016_0, ge21016_0⟩ := k38_openF hMe21016
           have hv21016_0 := hcc21016 0 _ rfl
           rw [Nat.add_zero] at hv21016_0
           replace hv21016_0 := Option.some.inj (hv21016_0.symm.trans hx21016_0)
           injection hv21016_0 with hva_ hvn_ hvc_
           rw [hva_] at ge21016_0
           rw [hvc_] at ul21016_0
           have HL21016_0 := Aside0.mk (show Kd.V Kd.string 9 _ w.heap.size _ _ ((rd_T38 x3_2 x7_3).f0) from Kd.V_mk ul21016_0 ge21016_0)
           clear hva_ hvn_ hvc_ ge21016_0 ul21016_0
           clear hcc21016 hce21016
           have HR21016_0 := Aside0.mk hi21016_0
           have HC21016_0 := Aside0.mk hl21016_0
           clear hi21016_0 hl21016_0
           replace p21016 := eq_true p21016
           replace q21016 := eq_true q21016
           have p21017 : 0 ≤ (x6_3 : Int) := odt
           have q21017 : x6_3 < (x3_2.length : Int) := odt
           obtain ⟨ad21017, A21017_0, c21017_0, e21017, hx21017_0, hx21017_1, hl21017_0, hi21017_0⟩ := at_T38 (Kd.N_reads' HO_3.out).2.2 x6_3 p21017 q21017
           obtain rfl : ad21016 = ad21017 := (by injection e21017)
           obtain ⟨ce21017, hce21017, hMe21017, hcc21017⟩ := Kd.N_get HO_3.out z38 x6_3 p21017 (by first | exact q21017 | exact odt | (have e_ := (Kd.N_reads' HO_3.out).1; omega))
           obtain ⟨ua21017_0, uc21017_0, rfl, ul21017_0, ge21017_0⟩ := k38_openF hMe21017
           have hv21017_0 := hcc21017 0 _ rfl
           rw [Nat.add_zero] at hv21017_0
           replace hv21017_0 := Option.some.inj (hv21017_0.symm.trans hx21017_0)
           injection hv21017_0 with hva_ hvn_ hvc_
           rw [hva_] at ge21017_0
           rw [hvc_] at ul21017_0
           have HL21017_0 := Aside0.mk (show Kd.V Kd.string 9 _ w.heap.size _ _ ((rd_T38 x3_2 x6_3).f0) from Kd.V_mk ul21017_0 ge21017_0)
           clear hva_ hvn_ hvc_ ge21017_0 ul21017_0
           clear hcc21017 hce21017
           have HR21017_0 := Aside0.mk hi21017_0
           have HC21017_0 := Aside0.mk hl21017_0
           clear hi21017_0 hl21017_0
           replace p21017 := eq_true p21017
           replace q21017 := eq_true q21017
           refine start_ (n := 11) (S := fun w' => w'.cell? (ad21016.add ((x7_3).toNat * 2)) = some (.slice A21016_0 ((rd_T38 x3_2 x7_3).f0).length c21016_0) ∧ w'.cell? ⟨(ad21016.add ((x7_3).toNat * 2)).block, (ad21016.add ((x7_3).toNat * 2)).off + 1, none⟩ = some (.int .i64 ((rd_T38 x3_2 x7_3).f1)) ∧ w'.cell? (ad21016.add ((x6_3).toNat * 2)) = some (.slice A21017_0 ((rd_T38 x3_2 x6_3).f0).length c21017_0) ∧ w'.cell? ⟨(ad21016.add ((x6_3).toNat * 2)).block, (ad21016.add ((x6_3).toNat * 2)).off + 1, none⟩ = some (.int .i64 ((rd_T38 x3_2 x6_3).f1))) (ds := []) #[false, false, false, false, false, false, false, false, false, false, false] (by kernel_rfl) rfl rfl ⟨hx21016_0, hx21016_1, hx21017_0, hx21017_1⟩ (fun hHeld => ?_); refine with_tabW customsref08_Characters.tab13 customsref08_Characters.bits13 (fun HT_ HW_ => ?_)
           generalize wr.drew = w29 at HO_3 HO_5 HB HL21016_0 HL21017_0 HR21016_0 HR21017_0 hx21016_0 hx21016_1 hx21017_0 hx21017_1 hHeld ⊢
           refine purE 0 (some 48) HT_ ?_
           refine purE 1 (some 49) HT_ ?_
           refine purE 2 (some 50) HT_ ?_
           refine purE 3 (some 51) HT_ ?_
           refine purE 5 (some 53) HT_ ?_
           refine purE 6 (some 54) HT_ ?_
           refine purE 7 (some 55) HT_ ?_
           refine purE 8 (some 56) HT_ ?_
           refine tkE 4 (some 52) HT_ HW_ hHeld ?_ (hy := by rintro w' ⟨s0, s1, s2, s3⟩; go_simp; with_reducible rfl)
           refine tkE 9 (some 57) HT_ HW_ hHeld ?_ (hy := by rintro w' ⟨s0, s1, s2, s3⟩; go_simp; with_reducible rfl)
           refine purE 10 (some 58) HT_ ?_
           refine done_ (done_of HT_.out (by kernel_rfl)) ?_
           try go_wp2
           go_roundg k3
           case measure => have := HJ2.out; have := HK2.out; have := HK3.out; omega
           case rel => exact ⟨(x6_3), (wrap64 (x7_3 + 1)), rls, rls, H', ⟨by have := HJ2.out; have := HK2.out; have := HK3.out; omega⟩, ⟨Kd.N_ext HO_3.out⟩, ⟨Kd.N_ext HO_5.out⟩, ⟨below_ext HB.out⟩⟩
         ·
          rw [if_neg c23] at H
          have c23b0 : decide (x7_3 < (x3_2.length : Int)) = false := decide_eq_false c23
          clear c23
          replace H := if_some H; obtain ⟨c30, H⟩ := H
          have c30b0 : decide (0 ≤ x6_3) = true := decide_eq_true c30
          clear c30
          replace H := if_some H; obtain ⟨c31, H⟩ := H
          have c31b0 : decide (x6_3 < (x3_2.length : Int)) = true := decide_eq_true c31
          clear c31
          replace H := if_some H; obtain ⟨c32, H⟩ := H
          have LMc32 := Aside0.mk c32
          clear c32
          obtain ⟨y21019, hy21019⟩ : ∃ y_ : List (S38), y_ = (x5_2 ++ [(⟨(rd_T38 x3_2 x6_3).f0, (rd_T38 x3_2 x6_3).f1⟩ : S38)]) := ⟨_, rfl⟩
          replace H : ((some (([] : List (S38)) : List (S38))).bind fun y21022 => (if x6_3 ≤ (x3_2.length : Int) then ((some (x3_2.take (x6_3 : Int).toNat : List (S38))).bind fun y21025 => (if y21022.length + y21025.length < 4398046511104 then ((some (y21022 ++ y21025 : List (S38))).bind fun y21030 => (if 0 ≤ (wrap64 (x6_3 + 1)) then (if (wrap64 (x6_3 + 1)) ≤ (x3_2.length : Int) then ((some (x3_2.drop ((wrap64 (x6_3 + 1)) : Int).toNat : List (S38))).bind fun y21033 => (if y21030.length + y21033.length < 4398046511104 then (customsref08_Characters.l1 k3 (y21030 ++ y21033) y21019) else (none))) else (none)) else (none))) else (none))) else (none))) = some r := by first | (rw [hy21019]; with_reducible exact H) | (have H2_ := (Option.bind_some _ _).symm.trans H; rw [hy21019]; with_reducible exact H2_) | (have H2_ := (Option.bind_some _ _).symm.trans H; with_reducible exact H2_) | with_reducible exact H | (rw [hy21019]; exact H) | exact H
          have Ny21019 := Aside0.mk hy21019
          clear hy21019
          obtain ⟨y21022, hy21022⟩ : ∃ y_ : List (S38), y_ = (([] : List (S38))) := ⟨_, rfl⟩
          replace H : (if x6_3 ≤ (x3_2.length : Int) then ((some (x3_2.take (x6_3 : Int).toNat : List (S38))).bind fun y21025 => (if y21022.length + y21025.length < 4398046511104 then ((some (y21022 ++ y21025 : List (S38))).bind fun y21030 => (if 0 ≤ (wrap64 (x6_3 + 1)) then (if (wrap64 (x6_3 + 1)) ≤ (x3_2.length : Int) then ((some (x3_2.drop ((wrap64 (x6_3 + 1)) : Int).toNat : List (S38))).bind fun y21033 => (if y21030.length + y21033.length < 4398046511104 then (customsref08_Characters.l1 k3 (y21030 ++ y21033) y21019) else (none))) else (none)) else (none))) else (none))) else (none)) = some r := by first | (rw [hy21022]; with_reducible exact H) | (have H2_ := (Option.bind_some _ _).symm.trans H; rw [hy21022]; with_reducible exact H2_) | (have H2_ := (Option.bind_some _ _).symm.trans H; with_reducible exact H2_) | with_reducible exact H | (rw [hy21022]; exact H) | exact H
          have Ny21022 := Aside0.mk hy21022
          clear hy21022
          have c33b0 := eq_true (odt : 0 ≤ x6_3)
          replace H := if_some H; obtain ⟨c34, H⟩ := H
          have c34b0 := eq_true c34
          have c34b1 : decide (x6_3 ≤ (x3_2.length : Int)) = true := decide_eq_true c34
          clear c34
          obtain ⟨y21025, hy21025⟩ : ∃ y_ : List (S38), y_ = (x3_2.take (x6_3 : Int).toNat) := ⟨_, rfl⟩
          replace H : (if y21022.length + y21025.length < 4398046511104 then ((some (y21022 ++ y21025 : List (S38))).bind fun y21030 => (if 0 ≤ (wrap64 (x6_3 + 1)) then (if (wrap64 (x6_3 + 1)) ≤ (x3_2.length : Int) then ((some (x3_2.drop ((wrap64 (x6_3 + 1)) : Int).toNat : List (S38))).bind fun y21033 => (if y21030.length + y21033.length < 4398046511104 then (customsref08_Characters.l1 k3 (y21030 ++ y21033) y21019) else (none))) else (none)) else (none))) else (none)) = some r := by first | (rw [hy21025]; with_reducible exact H) | (have H2_ := (Option.bind_some _ _).symm.trans H; rw [hy21025]; with_reducible exact H2_) | (have H2_ := (Option.bind_some _ _).symm.trans H; with_reducible exact H2_) | with_reducible exact H | (rw [hy21025]; exact H) | exact H
          have Ny21025 := Aside0.mk hy21025
          clear hy21025
          replace H := if_some H; obtain ⟨c35, H⟩ := H
          have LMc35 := Aside0.mk c35
          clear c35
          obtain ⟨y21030, hy21030⟩ : ∃ y_ : List (S38), y_ = (y21022 ++ y21025) := ⟨_, rfl⟩
          replace H : (if 0 ≤ (wrap64 (x6_3 + 1)) then (if (wrap64 (x6_3 + 1)) ≤ (x3_2.length : Int) then ((some (x3_2.drop ((wrap64 (x6_3 + 1)) : Int).toNat : List (S38))).bind fun y21033 => (if y21030.length + y21033.length < 4398046511104 then (customsref08_Characters.l1 k3 (y21030 ++ y21033) y21019) else (none))) else (none)) else (none)) = some r := by first | (rw [hy21030]; with_reducible exact H) | (have H2_ := (Option.bind_some _ _).symm.trans H; rw [hy21030]; with_reducible exact H2_) | (have H2_ := (Option.bind_some _ _).symm.trans H; with_reducible exact H2_) | with_reducible exact H | (rw [hy21030]; exact H) | exact H
          have Ny21030 := Aside0.mk hy21030
          clear hy21030
          obtain ⟨ji36, hji36⟩ : ∃ j_ : Int, (wrap64 (x6_3 + 1)) = j_ := ⟨_, rfl⟩
          replace H : (if 0 ≤ (ji36) then (if (ji36) ≤ (x3_2.length : Int) then ((some (x3_2.drop ((ji36) : Int).toNat : List (S38))).bind fun y21033 => (if y21030.length + y21033.length < 4398046511104 then (customsref08_Characters.l1 k3 (y21030 ++ y21033) y21019) else (none))) else (none)) else (none)) = some r := by first | (rw [hji36] at H; exact H) | (simp only [hji36] at H ⊢; exact H)
          have hji36w : (IntKind.i64.wrap (x6_3 + 1)) = ji36 := (i64_w _).trans hji36
          replace H := if_some H; obtain ⟨c37, H⟩ := H
          have c37b0 := eq_true c37
          have c37b1 : decide (0 ≤ (ji36)) = true := decide_eq_true c37
          clear c37
          replace H := if_some H; obtain ⟨c38, H⟩ := H
          have c38b0 := eq_true c38
          have c38b1 : decide ((ji36) ≤ (x3_2.length : Int)) = true := decide_eq_true c38
          clear c38
          obtain ⟨y21033, hy21033⟩ : ∃ y_ : List (S38), y_ = (x3_2.drop ((ji36) : Int).toNat) := ⟨_, rfl⟩
          replace H : (if y21030.length + y21033.length < 4398046511104 then (customsref08_Characters.l1 k3 (y21030 ++ y21033) y21019) else (none)) = some r := by first | (rw [hy21033]; with_reducible exact H) | (have H2_ := (Option.bind_some _ _).symm.trans H; rw [hy21033]; with_reducible exact H2_) | (have H2_ := (Option.bind_some _ _).symm.trans H; with_reducible exact H2_) | with_reducible exact H | (rw [hy21033]; exact H) | exact H
          have Ny21033 := Aside0.mk hy21033
          clear hy21033
          replace H := if_some H; obtain ⟨c39, H⟩ := H
          have LMc39 := Aside0.mk c39
          clear c39
          obtain ⟨y21038, hy21038⟩ : ∃ y_ : List (S38), y_ = (y21030 ++ y21033) := ⟨_, rfl⟩
          replace H : (customsref08_Characters.l1 k3 y21038 y21019) = some r := by first | (rw [hy21038]; with_reducible exact H) | (have H2_ := (Option.bind_some _ _).symm.trans H; rw [hy21038]; with_reducible exact H2_) | (have H2_ := (Option.bind_some _ _).symm.trans H; with_reducible exact H2_) | with_reducible exact H | (rw [hy21038]; exact H) | exact H
          have Ny21038 := Aside0.mk hy21038
          clear hy21038
          have H' := Aside0.mk H
          clear H
          have p21018 : 0 ≤ (x6_3 : Int) := odt
          have q21018 : x6_3 < (x3_2.length : Int) := odt
          obtain ⟨ad21018, A21018_0, c21018_0, e21018, hx21018_0, hx21018_1, hl21018_0, hi21018_0⟩ := at_T38 (Kd.N_reads' HO_3.out).2.2 x6_3 p21018 q21018
          cases e21018
          obtain ⟨ce21018, hce21018, hMe21018, hcc21018⟩ := Kd.N_get HO_3.out z38 x6_3 p21018 (by first | exact q21018 | exact odt | (have e_ := (Kd.N_reads' HO_3.out).1; omega))
          obtain ⟨ua21018_0, uc21018_0, rfl, ul21018_0, ge21018_0⟩ := k38_openF hMe21018
          have hv21018_0 := hcc21018 0 _ rfl
          rw [Nat.add_zero] at hv21018_0
          replace hv21018_0 := Option.some.inj (hv21018_0.symm.trans hx21018_0)
          injection hv21018_0 with hva_ hvn_ hvc_
          rw [hva_] at ge21018_0
          rw [hvc_] at ul21018_0
          have HL21018_0 := Aside0.mk (show Kd.V Kd.string 9 _ w.heap.size _ _ ((rd_T38 x3_2 x6_3).f0) from Kd.V_mk ul21018_0 ge21018_0)
          clear hva_ hvn_ hvc_ ge21018_0 ul21018_0
          clear hcc21018 hce21018
          have HR21018_0 := Aside0.mk hi21018_0
          have HC21018_0 := Aside0.mk hl21018_0
          clear hi21018_0 hl21018_0
          replace p21018 := eq_true p21018
          replace q21018 := eq_true q21018
          try go_wp2_with (first | ((with_reducible refine gate_builtin (b := .append) (xs := #[.tmp 60, .tmp 65]) rfl ?_); at_builtin; refine Kd.N_append k38 (w0 := w) w.heap.size rfl (.tmp 60) (.tmp 65) 24 38 (.agg #[(.slice none 0 0), (.int .i64 0)]) 32 rfl Tryd.underlying24 info38 rfl (by decide) (by omega) u5 x5_2 (⟨(rd_T38 x3_2 x6_3).f0, (rd_T38 x3_2 x6_3).f1⟩ : S38) [.slice A21018_0 ((rd_T38 x3_2 x6_3).f0).length c21018_0, .int .i64 ((rd_T38 x3_2 x6_3).f1)] (fun k_ => (P0_2_ k_ ∨ w.heap.size ≤ k_) ∧ some k_ ≠ (.slice (some ad21018) x3_2.length co22 : Value).ownBlock) (fun k_ => ((fun k_ => (P0_2_ k_ ∨ w.heap.size ≤ k_) ∧ some k_ ≠ (.slice (some ad21018) x3_2.length co22 : Value).ownBlock)) k_ ∧ some k_ ≠ (u5 : Value).ownBlock) rfl rfl ?aP (fun _ hk => hk) ?aF ?aO ?aB ?aS ?aL ?_; (case aP => exact (k38_mkF _ _ (⟨(rd_T38 x3_2 x6_3).f0, (rd_T38 x3_2 x6_3).f1⟩ : S38) (Kd.V_reads' (Kd.V_mono (ok' := (fun k_ => ((fun k_ => (P0_2_ k_ ∨ w.heap.size ≤ k_) ∧ some k_ ≠ (.slice (some ad21018) x3_2.length co22 : Value).ownBlock)) k_ ∧ some k_ ≠ (u5 : Value).ownBlock)) (HL21018_0.out) (fun k_ hk => ⟨⟨hk.1.1, hk.2⟩, hk.1.2⟩))).2.1 (Kd.V_F (Kd.V_mono (ok' := (fun k_ => ((fun k_ => (P0_2_ k_ ∨ w.heap.size ≤ k_) ∧ some k_ ≠ (.slice (some ad21018) x3_2.length co22 : Value).ownBlock)) k_ ∧ some k_ ≠ (u5 : Value).ownBlock)) (HL21018_0.out) (fun k_ hk => ⟨⟨hk.1.1, hk.2⟩, hk.1.2⟩))))); (case aB => exact (below_ext HB.out)); (case aF => exact (fun k_ hk => ⟨(.inr (Nat.le_trans (below_size (below_ext HB.out)) hk)), Kd.fresh' (Kd.N_lt (Kd.N_ext HO_3.out)) k_ hk⟩)); (case aO => exact (Kd.N_ext HO_5.out)); (case aS => exact (below_size (below_ext HB.out))); (case aL => have := LMc32.out; omega); intro v21020 w40 ho hb hg hat; rw [← Ny21019.out] at ho; replace HO_3 := Aside0.mk (Kd.N_afterv (ok := (fun k_ => (P0_2_ k_ ∨ w.heap.size ≤ k_))) (Kd.N_ext HO_3.out) hg hat); replace HL21018_0 := Aside0.mk (Kd.V_afterv (ok := (fun k_ => (P0_2_ k_ ∨ w.heap.size ≤ k_) ∧ some k_ ≠ (.slice (some ad21018) x3_2.length co22 : Value).ownBlock)) (Kd.V_ext (Kd.V_mono HL21018_0.out (fun _ hk => ⟨⟨hk.1.1, hk.2⟩, hk.1.2⟩))) hg hat); replace HB := Aside0.mk (hb); have HO21021 := Aside0.mk (ho); clear HO_5; clear ho hb hg hat))
          replace HO_3 := Aside0.mk (Kd.N_drew HO_3.out)
          replace HL21018_0 := Aside0.mk (Kd.V_drew HL21018_0.out)
          replace HO21021 := Aside0.mk (Kd.N_drew HO21021.out)
          replace HB := Aside0.mk (below_drew1 HB.out)
          have q42 : (x6_3 : Int) ≤ ((x3_2.length : Int) : Int) := odt
          obtain ⟨i042, hi042, _, hsz42, _⟩ := info_parts info38
          have hroom42 : x3_2.length ≤ co22 := (Kd.N_reads' HO_3.out).2.1
          have hC42 : Kd.F k38 _ _ (some ad21018) x3_2.length x3_2 := (Kd.V_at (base := w.heap.size) (Kd.N_V HO_3.out)).2.2
          have hcut42 := cut_to (P := Tryd.prog) 24 38 .i64 Tryd.underlying24 hi042 (some ad21018) x3_2.length co22 x6_3 (odt) q42 hroom42
          have hr42 := Kd.F_take (m := (x6_3 : Int).toNat) hC42 (by omega)
          have hy42 : y21025.length = (x6_3 : Int).toNat := (by rw [Ny21025.out, List.length_take]; omega)
          rw [← Ny21025.out] at hr42
          rw [← hy42] at hcut42
          have HO21029 := Aside0.mk (show Kd.V k38 38 _ w.heap.size _ (.slice (some ad21018) y21025.length co22) y21025 from Kd.V_mk (by omega) hr42)
          have HC21029 := Aside0.mk (show y21025.length ≤ co22 from by omega)
          clear hr42 hC42 hroom42 hi042 hsz42
          have KY42 := Aside0.mk hy42
          clear hy42
          replace q42 := eq_true q42
          have q43 : ((ji36) : Int) ≤ ((x3_2.length : Int) : Int) := odt
          obtain ⟨i043, hi043, _, hsz43, _⟩ := info_parts info38
          have hroom43 : x3_2.length ≤ co22 := (Kd.N_reads' HO_3.out).2.1
          have hC43 : Kd.F k38 _ _ (some ad21018) x3_2.length x3_2 := (Kd.V_at (base := w.heap.size) (Kd.N_V HO_3.out)).2.2
          have q043 : (0 : Int) ≤ ((ji36) : Int) := odt
          have hcut43 := cut_from (P := Tryd.prog) 24 38 .i64 Tryd.underlying24 hi043 2 hsz43 (some ad21018) x3_2.length co22 (ji36) q043 q43
          have hr43 := Kd.F_cut (m := ((ji36) : Int).toNat) (c := co22) hC43 (by omega) hroom43
          obtain ⟨A43, hA43⟩ : ∃ A1, A1 = (if co22 = ((ji36) : Int).toNat then (some ad21018) else ((some ad21018) : Option Addr).map (·.add (((ji36) : Int).toNat * 2))) := ⟨_, rfl⟩
          obtain ⟨c43, hc43⟩ : ∃ c1, c1 = co22 - ((ji36) : Int).toNat := ⟨_, rfl⟩
          have hy43 : y21033.length = x3_2.length - ((ji36) : Int).toNat := (by rw [Ny21033.out, List.length_drop] <;> omega)
          rw [show (x3_2).drop ((ji36) : Int).toNat = y21033 from Ny21033.out.symm] at hr43
          replace hr43 : Kd.F k38 _ _ A43 y21033.length y21033 := (by rw [hA43]; exact hr43)
          rw [← hy43, ← hA43, ← hc43] at hcut43
          have HO21037 := Aside0.mk (show Kd.V k38 38 _ w.heap.size _ (.slice A43 y21033.length c43) y21033 from Kd.V_mk (by rw [hy43, hc43]; exact Nat.sub_le_sub_right hroom43 _) hr43)
          have HC21037 := Aside0.mk (show y21033.length ≤ c43 from by rw [hy43, hc43]; exact Nat.sub_le_sub_right hroom43 _)
          clear hr43 hC43 hroom43 hi043 hsz43 hc43
          have KY43 := Aside0.mk hy43
          have KA43 := Aside0.mk hA43
          clear hy43 hA43
          replace q43 := eq_true q43
          refine start_ (n := 11) (S := fun w' => True) (ds := []) #[false, false, false, false, false, false, false, false, false, false, false] (by kernel_rfl) rfl rfl trivial (fun hHeld => ?_); refine with_tabW customsref08_Characters.tab16 customsref08_Characters.bits16 (fun HT_ HW_ => ?_)
          generalize w40.drew = w41 at HO_3 HL21018_0 HO21021 HB HO21029 HO21037 hHeld ⊢
          refine purE 1 (some 68) HT_ ?_
          refine purE 2 (some 69) HT_ ?_
          refine purE 3 (some 70) HT_ ?_
          refine purE 5 (some 72) HT_ ?_
          refine purE 6 (some 73) HT_ ?_
          refine purE 7 (some 74) HT_ ?_
          refine purE 8 (some 75) HT_ ?_
          refine oneE 0 (some 67) HT_ (fun K hK => ?_)
          refine Kd.N_lit_step k38 _ 38 ?hg (N' := 67) ?hd (xs := ([] : List (S38))) (inner := []) (ok := (fun k_ => (P0_2_ k_ ∨ w.heap.size ≤ k_) ∧ some k_ ≠ (.slice (some ad21018) x3_2.length co22 : Value).ownBlock ∧ some k_ ≠ (v21020 : Value).ownBlock)) (okp := (fun k_ => (P0_2_ k_ ∨ w.heap.size ≤ k_) ∧ some k_ ≠ (.slice (some ad21018) x3_2.length co22 : Value).ownBlock ∧ some k_ ≠ (v21020 : Value).ownBlock)) ?hr ?hp (fun _ hk => hk) ((show ∀ k_, w41.heap.size ≤ k_ → (fun k_ => (P0_2_ k_ ∨ w.heap.size ≤ k_) ∧ some k_ ≠ (.slice (some ad21018) x3_2.length co22 : Value).ownBlock ∧ some k_ ≠ (v21020 : Value).ownBlock) k_ from fun k_ hk => ⟨(.inr (Nat.le_trans (below_size (below_ext HB.out)) hk)), Kd.fresh' (Kd.N_lt (Kd.N_ext HO_3.out)) k_ hk, Kd.fresh' (Kd.N_lt (Kd.N_ext HO21021.out)) k_ hk⟩) _ (Nat.le_refl _)) (Below.refl _ _) (Nat.le_refl _) (by simp) ?_; (case hd => rfl); (case hg => rfl); (case hr => exact goR); (case hp => exact (Reps.none _ _))
          intro v21023 w44 ho45 hb hg_ hnew_
          clear hg_ hnew_
          (first | rw [← Ny21022.out] at ho45 | (simp only [Int.reduceToNat] at ho45; rw [← Ny21022.out] at ho45))
          have HO21024 := Aside0.mk (Kd.N_lower ho45 (below_size (below_ext HB.out)))
          replace HO_3 := apN HO_3 hb (Kd.N_base ho45)
          replace HL21018_0 := apV HL21018_0 hb (Kd.N_base ho45)
          replace HO21021 := apN HO21021 hb (Kd.N_base ho45)
          replace HO21029 := apV HO21029 hb (Kd.N_base ho45)
          replace HO21037 := apV HO21037 hb (Kd.N_base ho45)
          replace HB := mvH HB hb
          clear hb ho45
          refine hK.out _ _ trivial (fun hHeld => ?_)
          clear hK K
          refine nrmE (some 67) ?_
          refine oneE 4 (some 71) HT_ (fun K hK => ?_)
          refine Kd.N_append_rows_step k38 (w0 := w) w.heap.size (by rfl) (.tmp 67) (.tmp 70) 24 38 (.agg #[(.slice none 0 0), (.int .i64 0)]) 32 rfl Tryd.underlying24 info38 rfl (by decide) (by omega) v21023 y21022 y21025 _ _ _ (fun k_ => (P0_2_ k_ ∨ w.heap.size ≤ k_) ∧ some k_ ≠ (v21020 : Value).ownBlock) (fun k_ => ((fun k_ => (P0_2_ k_ ∨ w.heap.size ≤ k_) ∧ some k_ ≠ (v21020 : Value).ownBlock)) k_ ∧ some k_ ≠ (v21023 : Value).ownBlock) rfl rfl ?aO ?aR (fun _ hk => hk) ?aF ?aB ?aS ?aL ?_
          (case aR => exact (by skip; exact Kd.V_F (Kd.V_mono (ok' := (fun k_ => ((fun k_ => (P0_2_ k_ ∨ w.heap.size ≤ k_) ∧ some k_ ≠ (v21020 : Value).ownBlock)) k_ ∧ some k_ ≠ (v21023 : Value).ownBlock)) (HO21029.out) (fun k_ hk => ⟨⟨hk.1.1, hk.1.2⟩, hk.2⟩))))
          (case aB => exact (below_ext HB.out))
          (case aF => exact (fun k_ hk => ⟨(.inr (Nat.le_trans (below_size (below_ext HB.out)) hk)), Kd.fresh' (Kd.N_lt (Kd.N_ext HO21021.out)) k_ hk⟩))
          (case aO => exact (Kd.N_ext (Kd.N_mono HO21024.out (fun _ hk => ⟨hk.1, hk.2.2⟩))))
          (case aS => exact (below_size (below_ext HB.out)))
          (case aL => have := LMc35.out; omega)
          intro v21031 w46 ho hb hg hat
          rw [← Ny21030.out] at ho
          replace HO_3 := Aside0.mk (Kd.N_afterv (ok := (fun k_ => (P0_2_ k_ ∨ w.heap.size ≤ k_) ∧ some k_ ≠ (v21020 : Value).ownBlock)) (Kd.N_ext HO_3.out) hg hat)
          replace HL21018_0 := Aside0.mk (Kd.V_afterv (ok := (fun k_ => (P0_2_ k_ ∨ w.heap.size ≤ k_) ∧ some k_ ≠ (.slice (some ad21018) x3_2.length co22 : Value).ownBlock ∧ some k_ ≠ (v21020 : Value).ownBlock)) (Kd.V_ext (Kd.V_mono HL21018_0.out (fun _ hk => ⟨⟨hk.1.1.1, ⟨hk.1.1.2, hk.1.2⟩⟩, hk.2⟩))) hg hat)
          replace HO21021 := Aside0.mk (Kd.N_afterv (ok := (fun k_ => (P0_2_ k_ ∨ w.heap.size ≤ k_) ∧ some k_ ≠ (.slice (some ad21018) x3_2.length co22 : Value).ownBlock)) (Kd.N_ext HO21021.out) hg hat)
          replace HO21029 := Aside0.mk (Kd.V_afterv (ok := (fun k_ => (P0_2_ k_ ∨ w.heap.size ≤ k_) ∧ some k_ ≠ (v21020 : Value).ownBlock)) (Kd.V_ext HO21029.out) hg hat)
          replace HO21037 := Aside0.mk (Kd.V_afterv (ok := (fun k_ => (P0_2_ k_ ∨ w.heap.size ≤ k_) ∧ some k_ ≠ (v21020 : Value).ownBlock)) (Kd.V_ext HO21037.out) hg hat)
          replace HB := Aside0.mk (hb)
          have HO21032 := Aside0.mk (ho)
          clear HO21024
          clear ho hb hg hat
          refine hK.out _ _ trivial (fun hHeld => ?_)
          clear hK K
          refine nrmE (some 71) ?_
          refine oneE 9 (some 76) HT_ (fun K hK => ?_)
          refine Kd.N_append_rows_step k38 (w0 := w) w.heap.size (by rfl) (.tmp 71) (.tmp 75) 24 38 (.agg #[(.slice none 0 0), (.int .i64 0)]) 32 rfl Tryd.underlying24 info38 rfl (by decide) (by omega) v21031 y21030 y21033 _ _ _ (fun k_ => (P0_2_ k_ ∨ w.heap.size ≤ k_) ∧ some k_ ≠ (v21020 : Value).ownBlock) (fun k_ => ((fun k_ => (P0_2_ k_ ∨ w.heap.size ≤ k_) ∧ some k_ ≠ (v21020 : Value).ownBlock)) k_ ∧ some k_ ≠ (v21031 : Value).ownBlock) rfl rfl ?aO ?aR (fun _ hk => hk) ?aF ?aB ?aS ?aL ?_
          (case aR => exact (by skip; exact Kd.V_F (Kd.V_mono (ok' := (fun k_ => ((fun k_ => (P0_2_ k_ ∨ w.heap.size ≤ k_) ∧ some k_ ≠ (v21020 : Value).ownBlock)) k_ ∧ some k_ ≠ (v21031 : Value).ownBlock)) (HO21037.out) (fun k_ hk => ⟨⟨hk.1.1, hk.1.2⟩, hk.2⟩))))
          (case aB => exact (below_ext HB.out))
          (case aF => exact (fun k_ hk => ⟨(.inr (Nat.le_trans (below_size (below_ext HB.out)) hk)), Kd.fresh' (Kd.N_lt (Kd.N_ext HO21021.out)) k_ hk⟩))
          (case aO => exact (Kd.N_ext HO21032.out))
          (case aS => exact (below_size (below_ext HB.out)))
          (case aL => have := LMc39.out; omega)
          intro v21039 w47 ho hb hg hat
          rw [← Ny21038.out] at ho
          replace HO_3 := Aside0.mk (Kd.N_afterv (ok := (fun k_ => (P0_2_ k_ ∨ w.heap.size ≤ k_) ∧ some k_ ≠ (v21020 : Value).ownBlock)) (Kd.N_ext HO_3.out) hg hat)
          replace HL21018_0 := Aside0.mk (Kd.V_afterv (ok := (fun k_ => (P0_2_ k_ ∨ w.heap.size ≤ k_) ∧ some k_ ≠ (.slice (some ad21018) x3_2.length co22 : Value).ownBlock ∧ some k_ ≠ (v21020 : Value).ownBlock)) (Kd.V_ext HL21018_0.out) hg hat)
          replace HO21021 := Aside0.mk (Kd.N_afterv (ok := (fun k_ => (P0_2_ k_ ∨ w.heap.size ≤ k_) ∧ some k_ ≠ (.slice (some ad21018) x3_2.length co22 : Value).ownBlock)) (Kd.N_ext HO21021.out) hg hat)
          replace HO21029 := Aside0.mk (Kd.V_afterv (ok := (fun k_ => (P0_2_ k_ ∨ w.heap.size ≤ k_) ∧ some k_ ≠ (v21020 : Value).ownBlock)) (Kd.V_ext HO21029.out) hg hat)
          replace HO21037 := Aside0.mk (Kd.V_afterv (ok := (fun k_ => (P0_2_ k_ ∨ w.heap.size ≤ k_) ∧ some k_ ≠ (v21020 : Value).ownBlock)) (Kd.V_ext HO21037.out) hg hat)
          replace HB := Aside0.mk (hb)
          have HO21040 := Aside0.mk (ho)
          clear HO21032
          clear ho hb hg hat
          refine hK.out _ _ trivial (fun hHeld => ?_)
          clear hK K
          refine nrmE (some 76) ?_
          refine purE 10 (some 3) HT_ ?_
          refine done_ (done_of HT_.out (by kernel_rfl)) ?_
          try go_wp2
          go_roundg k3
          case measure => have := HJ2.out; have := HK2.out; have := HK3.out; omega
          case rel => exact ⟨(y21038), (y21019), H', ⟨by have := HJ2.out; have := HK2.out; have := HK3.out; omega⟩, ⟨Kd.N_ext HO21040.out⟩, ⟨Kd.N_ext (Kd.N_mono HO21021.out (fun _ hk => ⟨hk.1.1, hk.2⟩))⟩, ⟨below_ext HB.out⟩⟩
      ·
       rw [if_neg c21] at H
       have c21b0 : decide (0 < (x3_2.length : Int)) = false := decide_eq_false c21
       have c21b1 : decide (0 < x3_2.length) = false := decide_eq_false (by omega)
       have c21b9 : (0 < x3_2.length) = False := eq_false (of_decide_eq_false c21b1)
       clear c21
       obtain rfl := Option.some.inj H
       obtain ⟨Ao48, co48, eo48⟩ := Kd.N_slice HO_3.out
       subst eo48
       go_wp2
       go_ret
       exact ⟨_, by first | rfl | (simp [errW_none, errW_some] <;> rfl) | (simp [*, errW_none, errW_some] <;> rfl), Kd.N_ext (Kd.N_mono HO_5.out (fun _ hk => hk.1)), below_ext HB.out⟩
 ·
  rw [if_neg c2] at H
  exact absurd H (by simp)

end Go.Proofs.YtoolggpfgadjlaaDoor.Z
