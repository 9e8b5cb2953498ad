/- Printed: a Go function in plain Lean, and that its call does what it says. Conditions: those each theorem states. -/
import Derived.Test.YtoolggpfgadjlaaDoorZ0
import Derived.Test.YtoolggpfgadjlaaDoorZcustomsmadeSourceNext
namespace Go.Proofs.YtoolggpfgadjlaaDoor.Z
open Go.RowKit Go.Proofs.YtoolggpfgadjlaaDoorW.PrintWords Go.Proofs.YtoolggpfgadjlaaDoorW.PrintLast Go.Proofs.YtoolggpfgadjlaaDoorW.PrintMore
attribute [local go_sem high] str_leq str_geq str_gtr   -- strings
attribute [local go_sem] max2_int min2_int max_two min_two max_three min_three max_four min_four   -- for this text's walks alone
set_option linter.unusedVariables false
set_option linter.unusedSimpArgs false

/-! ### customsmade_Source_shares: function 26 -/
def customsmade_Source_shares.l0 : Nat → Int → List Int → Int → Int → List Int → Int → Option (List Int × Int)
 | 0, _, _, _, _, _, _ => none
 | k + 1, x1, x5, x6, x7, x1000, x1001 => if x7 < x1 then ((customsmade_Source_Next.f x1000 x1001 4).bind fun bt26004 => ((customsmade_Source_Next.f x1000 bt26004.2 2).bind fun bt26006 => (if bt26006.1 = 1 then (if x1 = 0 then (none) else ((customsmade_Source_Next.f x1000 bt26006.2 (wrap64 ((1000000 : Int) / x1))).bind fun bt26008 => (if x5.length < 17592186044416 then (customsmade_Source_shares.l0 k x1 (x5 ++ [mn (wrap64 (1 + bt26008.1)) (wrap64 (x6 - (wrap64 (x1 - x7))))]) (wrap64 (x6 - (mn (wrap64 (1 + bt26008.1)) (wrap64 (x6 - (wrap64 (x1 - x7))))))) (wrap64 (x7 + 1)) x1000 bt26008.2) else (none)))) else (if x5.length < 17592186044416 then (customsmade_Source_shares.l0 k x1 (x5 ++ [mn (wrap64 (1 + (wrap64 (bt26004.1 * 100000)))) (wrap64 (x6 - (wrap64 (x1 - x7))))]) (wrap64 (x6 - (mn (wrap64 (1 + (wrap64 (bt26004.1 * 100000)))) (wrap64 (x6 - (wrap64 (x1 - x7))))))) (wrap64 (x7 + 1)) x1000 bt26006.2) else (none))))) else (if x5.length < 17592186044416 then (some ((x5 ++ [x6]), x1001)) else (none))
def customsmade_Source_shares.f (k : Nat) (s0_0 : List Int) (s0_1 : Int) (a1 : Int) : Option (List Int × Int) := customsmade_Source_shares.l0 k a1 ([] : List Int) 1000000 1 s0_0 s0_1
theorem customsmade_Source_shares.mono_l : ∀ k, (∀ y0 y1 y2 y3 y4 y5, LeO (customsmade_Source_shares.l0 k y0 y1 y2 y3 y4 y5) (customsmade_Source_shares.l0 (k + 1) y0 y1 y2 y3 y4 y5))
 | 0 => fun _ _ _ _ _ _ r h => by simp [customsmade_Source_shares.l0] at h
 | k + 1 => by
  have ih0 := customsmade_Source_shares.mono_l k
  ·
   intro y0 y1 y2 y3 y4 y5
   unfold customsmade_Source_shares.l0
   repeat' first
   | (with_reducible exact ih0 _ _ _ _ _ _)
   | (with_reducible exact LeO.refl _)
   | (with_reducible exact LeO.none _)
   | (with_reducible refine LeO.ite ?_ ?_)
   | (with_reducible refine LeO.bind ?_ (fun _ => ?_))
   | exact ih0 _ _ _ _ _ _
   | exact LeO.none _
   | refine LeO.ite ?_ ?_
   | refine LeO.bind ?_ (fun _ => ?_)
theorem customsmade_Source_shares.mono : ∀ a0 a1 a2 k, LeO (customsmade_Source_shares.f k a0 a1 a2) (customsmade_Source_shares.f (k + 1) a0 a1 a2) := by
 intro a0 a1 a2 k
 have ih0 := customsmade_Source_shares.mono_l k
 unfold customsmade_Source_shares.f
 repeat' first
   | (with_reducible exact ih0 _ _ _ _ _ _)
   | (with_reducible exact LeO.refl _)
   | (with_reducible exact LeO.none _)
   | (with_reducible refine LeO.ite ?_ ?_)
   | (with_reducible refine LeO.bind ?_ (fun _ => ?_))
   | exact ih0 _ _ _ _ _ _
   | exact LeO.none _
   | refine LeO.ite ?_ ?_
   | refine LeO.bind ?_ (fun _ => ?_)
set_option maxHeartbeats 8000000 in
set_option maxRecDepth 100000 in
theorem customsmade_Source_shares.calls (k : Nat) (g : Nat) (s0_0 : List Int) (s0_1 : Int) (a1 : Int) (r1 : List Int) (r2 : Int) (w0 w : World) (hI : IsS55 w0 w g s0_0 s0_1) (hB : Below w0.heap.size w0 w) (h : customsmade_Source_shares.f k s0_0 s0_1 a1 = some (r1, r2)) :
  Calls Tryd.prog 26 #[.pointer (some ⟨g, 0, none⟩), .int .i64 a1] w fun e w' => ∃ v0_ : Value, e = .returned (v0_) ∧ Kd.R (Kd.int .i64) 3 w' w.heap.size (fun _ => True) v0_ r1 ∧ IsS55 w0 w' g s0_0 r2 ∧ Below w0.heap.size w0 w' ∧ KeepBut w w' g none := by
 have HI0 := Aside0.mk hI
 have HK := Aside0.mk (KeepBut.refl w g none)
 have HL := Aside0.mk hB.size
 clear hI
 have HW0 := Aside0.mk hB.size
 have HB := Aside0.mk hB
 clear hB
 have H : (customsmade_Source_shares.l0 k a1 ([] : List Int) 1000000 1 s0_0 s0_1) = some (r1, r2) := h
 clear h
 have H' := Aside0.mk H
 clear H
 go_enter Tryd.func26, Tryd.ntmps26
 go_wp2
 go_loopg [5, 6, 7] k (fun kq v5 v6 v7 w' => ∃ (x5_1 : List Int) (x6_1 : Int) (x7_1 : Int) (x1001_1 : Int), v6 = .int .i64 x6_1 ∧ v7 = .int .i64 x7_1 ∧ Aside0 (customsmade_Source_shares.l0 kq a1 x5_1 x6_1 x7_1 s0_0 x1001_1 = some (r1, r2)) ∧ Aside0 (kq ≤ k) ∧ Aside0 (Kd.R (Kd.int .i64) 3 w' w.heap.size (fun _ => True) v5 x5_1) ∧ Aside0 (IsS55 w0 w' g s0_0 x1001_1) ∧ Aside0 (KeepBut w w' g none) ∧ Aside0 (Below w0.heap.size w0 w'))
 case atStart => exact ⟨(([] : List Int)), (1000000), (1), (s0_1), rls, rls, H', ⟨Nat.le_refl _⟩, ⟨by first | exact Kd.R_nil _ _ _ _ _ | exact Kd.N_nil _ _ _ _ _ | exact Kd.V_nil _ _ _ _ _ | exact Kd.Q_nil _ _ _ _ _ | exact Kd.S_nil _ _ _ _ _⟩, ⟨by repeat (first | (with_reducible first | exact HI0.out | apply IsS55.alloc | apply IsS55.drewN | apply IsS55.drew | apply IsS55.set_1) | exact HI0.out)⟩, ⟨by repeat (first | (with_reducible first | exact HK.out | apply KeepBut.set_ | apply keep_drewN | apply keep_drew | apply keep_alloc) | exact HK.out)⟩, ⟨by repeat (first | (with_reducible first | exact HB.out | apply bA | apply bN | apply b1 | refine bS ?_ (IsS55.ge HI0.out)) | exact HB.out)⟩⟩
 case round =>
  clear H'
  try clear c2
  try clear p2
  obtain ⟨x5_1, x6_1, x7_1, x1001_1, rfl, rfl, HA, HK1, HO_5, HI0, HK, HB⟩ := hrel
  cases gk with
  | zero => exact absurd HA.out (by simp [customsmade_Source_shares.l0])
  | succ k1 =>
   have H := HA.out
   clear HA
   simp only [customsmade_Source_shares.l0] at H
   by_cases c3 : x7_1 < a1
   ·
    rw [if_pos c3] at H
    have c3b0 : decide (x7_1 < a1) = true := decide_eq_true c3
    clear c3
    replace H := Option.bind_eq_some_iff.mp H
    obtain ⟨⟨t26004, t26005⟩, A40, H⟩ := H
    replace H : ((customsmade_Source_Next.f s0_0 t26005 2).bind fun bt26006 => (if bt26006.1 = 1 then (if a1 = 0 then (none) else ((customsmade_Source_Next.f s0_0 bt26006.2 (wrap64 ((1000000 : Int) / a1))).bind fun bt26008 => (if x5_1.length < 17592186044416 then (customsmade_Source_shares.l0 k1 a1 (x5_1 ++ [mn (wrap64 (1 + bt26008.1)) (wrap64 (x6_1 - (wrap64 (a1 - x7_1))))]) (wrap64 (x6_1 - (mn (wrap64 (1 + bt26008.1)) (wrap64 (x6_1 - (wrap64 (a1 - x7_1))))))) (wrap64 (x7_1 + 1)) s0_0 bt26008.2) else (none)))) else (if x5_1.length < 17592186044416 then (customsmade_Source_shares.l0 k1 a1 (x5_1 ++ [mn (wrap64 (1 + (wrap64 (t26004 * 100000)))) (wrap64 (x6_1 - (wrap64 (a1 - x7_1))))]) (wrap64 (x6_1 - (mn (wrap64 (1 + (wrap64 (t26004 * 100000)))) (wrap64 (x6_1 - (wrap64 (a1 - x7_1))))))) (wrap64 (x7_1 + 1)) s0_0 bt26006.2) else (none)))) = some (r1, r2) := H
    have A4 := Aside0.mk A40
    clear A40
    replace H := Option.bind_eq_some_iff.mp H
    obtain ⟨⟨t26006, t26007⟩, A50, H⟩ := H
    replace H : (if t26006 = 1 then (if a1 = 0 then (none) else ((customsmade_Source_Next.f s0_0 t26007 (wrap64 ((1000000 : Int) / a1))).bind fun bt26008 => (if x5_1.length < 17592186044416 then (customsmade_Source_shares.l0 k1 a1 (x5_1 ++ [mn (wrap64 (1 + bt26008.1)) (wrap64 (x6_1 - (wrap64 (a1 - x7_1))))]) (wrap64 (x6_1 - (mn (wrap64 (1 + bt26008.1)) (wrap64 (x6_1 - (wrap64 (a1 - x7_1))))))) (wrap64 (x7_1 + 1)) s0_0 bt26008.2) else (none)))) else (if x5_1.length < 17592186044416 then (customsmade_Source_shares.l0 k1 a1 (x5_1 ++ [mn (wrap64 (1 + (wrap64 (t26004 * 100000)))) (wrap64 (x6_1 - (wrap64 (a1 - x7_1))))]) (wrap64 (x6_1 - (mn (wrap64 (1 + (wrap64 (t26004 * 100000)))) (wrap64 (x6_1 - (wrap64 (a1 - x7_1))))))) (wrap64 (x7_1 + 1)) s0_0 t26007) else (none))) = some (r1, r2) := H
    have A5 := Aside0.mk A50
    clear A50
    by_cases c6 : t26006 = 1
    ·
     rw [if_pos c6] at H
     have c6b0 : (t26006 == 1) = true := beq_iff_eq.mpr c6
     have c6b1 : (t26006 != 1) = false := bne_eq_false_iff_eq.mpr c6
     clear c6
     replace H := if_none H; obtain ⟨c7, H⟩ := H
     have c7b0 : (a1 == 0) = false := beq_eq_false_iff_ne.mpr c7
     have c7b1 : (a1 != 0) = true := bne_iff_ne.mpr c7
     replace H := Option.bind_eq_some_iff.mp H
     obtain ⟨⟨t26008, t26009⟩, A80, H⟩ := H
     replace H : (if x5_1.length < 17592186044416 then (customsmade_Source_shares.l0 k1 a1 (x5_1 ++ [mn (wrap64 (1 + t26008)) (wrap64 (x6_1 - (wrap64 (a1 - x7_1))))]) (wrap64 (x6_1 - (mn (wrap64 (1 + t26008)) (wrap64 (x6_1 - (wrap64 (a1 - x7_1))))))) (wrap64 (x7_1 + 1)) s0_0 t26009) else (none)) = some (r1, r2) := H
     have A8 := Aside0.mk A80
     clear A80
     obtain ⟨ji9, hji9⟩ : ∃ j_ : Int, (mn (wrap64 (1 + t26008)) (wrap64 (x6_1 - (wrap64 (a1 - x7_1))))) = j_ := ⟨_, rfl⟩
     replace H : (if x5_1.length < 17592186044416 then (customsmade_Source_shares.l0 k1 a1 (x5_1 ++ [ji9]) (wrap64 (x6_1 - (ji9))) (wrap64 (x7_1 + 1)) s0_0 t26009) else (none)) = some (r1, r2) := by first | (rw [hji9] at H; exact H) | (simp only [hji9] at H ⊢; exact H)
     (try rw [hji9] at A4)
     (try rw [hji9] at A5)
     (try rw [hji9] at A8)
     have hji9_ : (if (wrap64 (x6_1 - (wrap64 (a1 - x7_1)))) < (wrap64 (1 + t26008)) then (wrap64 (x6_1 - (wrap64 (a1 - x7_1)))) else (wrap64 (1 + t26008))) = ji9 := hji9
     replace H := if_some H; obtain ⟨c10, H⟩ := H
     have LMc10 := Aside0.mk c10
     clear c10
     obtain ⟨y26010, hy26010⟩ : ∃ y_ : List Int, y_ = (x5_1 ++ [ji9]) := ⟨_, rfl⟩
     replace H : (customsmade_Source_shares.l0 k1 a1 y26010 (wrap64 (x6_1 - (ji9))) (wrap64 (x7_1 + 1)) s0_0 t26009) = some (r1, r2) := by first | (rw [hy26010]; with_reducible exact H) | (have H2_ := (Option.bind_some _ _).symm.trans H; rw [hy26010]; with_reducible exact H2_) | (have H2_ := (Option.bind_some _ _).symm.trans H; with_reducible exact H2_) | with_reducible exact H | (rw [hy26010]; exact H) | exact H
     have Ny26010 := Aside0.mk hy26010
     clear hy26010
     have H' := Aside0.mk H
     clear H
     go_wp2_with (first | ((with_reducible refine gate_callee (f := 25) rfl ?_); refine goesL_ (some 15) rfl rfl Tryd.func25 (by kernel_rfl) rfl #[.pointer (some ⟨g, 0, none⟩), .int .i64 4] rfl goA ?_; (with_reducible refine (customsmade_Source_Next.calls g s0_0 x1001_1 4 t26004 t26005 w0 _ ?side1 ?side2 A4.out).mono ?_); (case side1 => repeat (first | (with_reducible first | exact HI0.out | apply IsS55.alloc | apply IsS55.drewN | apply IsS55.drew | apply IsS55.set_1) | exact HI0.out)); (case side2 => repeat (first | (with_reducible first | exact HB.out | apply bA | apply bN | apply b1 | refine bS ?_ (IsS55.ge HI0.out)) | exact HB.out)); rintro e w11 ⟨rfl, hi, hb, hk⟩; refine ⟨_, rfl, ?_⟩; replace HO_5 := Aside0.mk (Kd.R_mono (Kd.R_keep (IsS55.apart (show IsS55 w0 _ g s0_0 x1001_1 from by repeat (first | (with_reducible first | exact HI0.out | apply IsS55.alloc | apply IsS55.drewN | apply IsS55.drew | apply IsS55.set_1) | exact HI0.out)) (Kd.R_ext HO_5.out) (by decide)) hk (fun _ h => h.2)) (fun _ h => h.1)); replace HK := Aside0.mk (KeepBut.trans (by repeat (first | (with_reducible first | exact HK.out | apply KeepBut.set_ | apply keep_drewN | apply keep_drew | apply keep_alloc) | exact HK.out)) hk (.inl rfl)); replace HB := Aside0.mk (hb); replace HI0 := Aside0.mk (hi); (try clear hb); (try clear hb2); (try clear hk); (try clear hi)) | ((with_reducible refine gate_callee (f := 25) rfl ?_); refine goesL_ (some 19) rfl rfl Tryd.func25 (by kernel_rfl) rfl #[.pointer (some ⟨g, 0, none⟩), .int .i64 2] rfl goA ?_; (with_reducible refine (customsmade_Source_Next.calls g s0_0 t26005 2 t26006 t26007 w0 _ ?side1 ?side2 A5.out).mono ?_); (case side1 => repeat (first | (with_reducible first | exact HI0.out | apply IsS55.alloc | apply IsS55.drewN | apply IsS55.drew | apply IsS55.set_1) | exact HI0.out)); (case side2 => repeat (first | (with_reducible first | exact HB.out | apply bA | apply bN | apply b1 | refine bS ?_ (IsS55.ge HI0.out)) | exact HB.out)); rintro e w12 ⟨rfl, hi, hb, hk⟩; refine ⟨_, rfl, ?_⟩; replace HO_5 := Aside0.mk (Kd.R_mono (Kd.R_keep (IsS55.apart (show IsS55 w0 _ g s0_0 t26005 from by repeat (first | (with_reducible first | exact HI0.out | apply IsS55.alloc | apply IsS55.drewN | apply IsS55.drew | apply IsS55.set_1) | exact HI0.out)) (Kd.R_ext HO_5.out) (by decide)) hk (fun _ h => h.2)) (fun _ h => h.1)); replace HK := Aside0.mk (KeepBut.trans (by repeat (first | (with_reducible first | exact HK.out | apply KeepBut.set_ | apply keep_drewN | apply keep_drew | apply keep_alloc) | exact HK.out)) hk (.inl rfl)); replace HB := Aside0.mk (hb); replace HI0 := Aside0.mk (hi); (try clear hb); (try clear hb2); (try clear hk); (try clear hi)) | ((with_reducible refine gate_callee (f := 25) rfl ?_); refine goesL_ (some 24) rfl rfl Tryd.func25 (by kernel_rfl) rfl #[.pointer (some ⟨g, 0, none⟩), .int .i64 (wrap64 ((1000000 : Int) / a1))] rfl goA ?_; (with_reducible refine (customsmade_Source_Next.calls g s0_0 t26007 (wrap64 ((1000000 : Int) / a1)) t26008 t26009 w0 _ ?side1 ?side2 A8.out).mono ?_); (case side1 => repeat (first | (with_reducible first | exact HI0.out | apply IsS55.alloc | apply IsS55.drewN | apply IsS55.drew | apply IsS55.set_1) | exact HI0.out)); (case side2 => repeat (first | (with_reducible first | exact HB.out | apply bA | apply bN | apply b1 | refine bS ?_ (IsS55.ge HI0.out)) | exact HB.out)); rintro e w13 ⟨rfl, hi, hb, hk⟩; refine ⟨_, rfl, ?_⟩; replace HO_5 := Aside0.mk (Kd.R_mono (Kd.R_keep (IsS55.apart (show IsS55 w0 _ g s0_0 t26007 from by repeat (first | (with_reducible first | exact HI0.out | apply IsS55.alloc | apply IsS55.drewN | apply IsS55.drew | apply IsS55.set_1) | exact HI0.out)) (Kd.R_ext HO_5.out) (by decide)) hk (fun _ h => h.2)) (fun _ h => h.1)); replace HK := Aside0.mk (KeepBut.trans (by repeat (first | (with_reducible first | exact HK.out | apply KeepBut.set_ | apply keep_drewN | apply keep_drew | apply keep_alloc) | exact HK.out)) hk (.inl rfl)); replace HB := Aside0.mk (hb); replace HI0 := Aside0.mk (hi); (try clear hb); (try clear hb2); (try clear hk); (try clear hi)) | ((with_reducible refine gate_builtin (b := .append) (xs := #[.tmp 33, .tmp 35]) rfl ?_); at_builtin; refine Kd.R_append (Kd.int .i64) w.heap.size rfl (.tmp 33) (.tmp 35) 27 3 (.int .i64 0) 8 rfl Tryd.underlying27 info3 rfl (by decide) (by omega) u5 x5_1 ji9 [.int .i64 ji9] (fun _ => True) (fun _ => False) rfl rfl ?aP (fun _ hk => hk.elim) ?aF ?aO (Below.refl _ _) ?aS ?aL ?_; (case aP => exact rfl); (case aF => exact (fun _ _ => trivial)); (case aO => exact (Kd.R_ext HO_5.out)); (case aS => exact (keep_size (w := w) (g := g) (row := none) (by repeat (first | (with_reducible first | exact HK.out | apply KeepBut.set_ | apply keep_drewN | apply keep_drew | apply keep_alloc) | exact HK.out)))); (case aL => have := LMc10.out; omega); intro v26011 w14 ho hb hg hat; rw [← Ny26010.out] at ho; have n0_ := Aside0.mk (IsS55.grown (by repeat (first | (with_reducible first | exact HI0.out | apply IsS55.alloc | apply IsS55.drewN | apply IsS55.drew | apply IsS55.set_1) | exact HI0.out)) hg (IsS55.own_ne HI0.out HO_5.out (by decide))); replace HB := Aside0.mk (below_weaken (by repeat (first | (with_reducible first | exact HB.out | apply bA | apply bN | apply b1 | refine bS ?_ (IsS55.ge HI0.out)) | exact HB.out)) HL.out hb); replace HK := Aside0.mk (KeepBut.trans (by repeat (first | (with_reducible first | exact HK.out | apply KeepBut.set_ | apply keep_drewN | apply keep_drew | apply keep_alloc) | exact HK.out)) (KeepBut.of_grown hg g) (Kd.R_base2 HO_5.out)); have HO26012 := Aside0.mk (ho); clear HI0; clear HO_5; have HI0 := n0_; clear n0_; clear ho hb hg hat))
     go_roundg k1
     case measure => have := HK1.out; omega
     case rel => exact ⟨(y26010), (wrap64 (x6_1 - (ji9))), (wrap64 (x7_1 + 1)), (t26009), (by first | rfl | (simp; done) | (simp only [← hji9] <;> (first | rfl | simp)) | (simp [*]; done)), rls, H', ⟨by have := HK1.out; omega⟩, ⟨Kd.R_ext HO26012.out⟩, ⟨by repeat (first | (with_reducible first | exact HI0.out | apply IsS55.alloc | apply IsS55.drewN | apply IsS55.drew | apply IsS55.set_1) | exact HI0.out)⟩, ⟨by repeat (first | (with_reducible first | exact HK.out | apply KeepBut.set_ | apply keep_drewN | apply keep_drew | apply keep_alloc) | exact HK.out)⟩, ⟨by repeat (first | (with_reducible first | exact HB.out | apply bA | apply bN | apply b1 | refine bS ?_ (IsS55.ge HI0.out)) | exact HB.out)⟩⟩
    ·
     rw [if_neg c6] at H
     have c6b0 : (t26006 == 1) = false := beq_eq_false_iff_ne.mpr c6
     have c6b1 : (t26006 != 1) = true := bne_iff_ne.mpr c6
     obtain ⟨ji15, hji15⟩ : ∃ j_ : Int, (mn (wrap64 (1 + (wrap64 (t26004 * 100000)))) (wrap64 (x6_1 - (wrap64 (a1 - x7_1))))) = j_ := ⟨_, rfl⟩
     replace H : (if x5_1.length < 17592186044416 then (customsmade_Source_shares.l0 k1 a1 (x5_1 ++ [ji15]) (wrap64 (x6_1 - (ji15))) (wrap64 (x7_1 + 1)) s0_0 t26007) else (none)) = some (r1, r2) := by first | (rw [hji15] at H; exact H) | (simp only [hji15] at H ⊢; exact H)
     (try rw [hji15] at A4)
     (try rw [hji15] at A5)
     have hji15_ : (if (wrap64 (x6_1 - (wrap64 (a1 - x7_1)))) < (wrap64 (1 + (wrap64 (t26004 * 100000)))) then (wrap64 (x6_1 - (wrap64 (a1 - x7_1)))) else (wrap64 (1 + (wrap64 (t26004 * 100000))))) = ji15 := hji15
     replace H := if_some H; obtain ⟨c16, H⟩ := H
     have LMc16 := Aside0.mk c16
     clear c16
     obtain ⟨y26013, hy26013⟩ : ∃ y_ : List Int, y_ = (x5_1 ++ [ji15]) := ⟨_, rfl⟩
     replace H : (customsmade_Source_shares.l0 k1 a1 y26013 (wrap64 (x6_1 - (ji15))) (wrap64 (x7_1 + 1)) s0_0 t26007) = some (r1, r2) := by first | (rw [hy26013]; with_reducible exact H) | (have H2_ := (Option.bind_some _ _).symm.trans H; rw [hy26013]; with_reducible exact H2_) | (have H2_ := (Option.bind_some _ _).symm.trans H; with_reducible exact H2_) | with_reducible exact H | (rw [hy26013]; exact H) | exact H
     have Ny26013 := Aside0.mk hy26013
     clear hy26013
     have H' := Aside0.mk H
     clear H
     go_wp2_with (first | ((with_reducible refine gate_callee (f := 25) rfl ?_); refine goesL_ (some 15) rfl rfl Tryd.func25 (by kernel_rfl) rfl #[.pointer (some ⟨g, 0, none⟩), .int .i64 4] rfl goA ?_; (with_reducible refine (customsmade_Source_Next.calls g s0_0 x1001_1 4 t26004 t26005 w0 _ ?side1 ?side2 A4.out).mono ?_); (case side1 => repeat (first | (with_reducible first | exact HI0.out | apply IsS55.alloc | apply IsS55.drewN | apply IsS55.drew | apply IsS55.set_1) | exact HI0.out)); (case side2 => repeat (first | (with_reducible first | exact HB.out | apply bA | apply bN | apply b1 | refine bS ?_ (IsS55.ge HI0.out)) | exact HB.out)); rintro e w17 ⟨rfl, hi, hb, hk⟩; refine ⟨_, rfl, ?_⟩; replace HO_5 := Aside0.mk (Kd.R_mono (Kd.R_keep (IsS55.apart (show IsS55 w0 _ g s0_0 x1001_1 from by repeat (first | (with_reducible first | exact HI0.out | apply IsS55.alloc | apply IsS55.drewN | apply IsS55.drew | apply IsS55.set_1) | exact HI0.out)) (Kd.R_ext HO_5.out) (by decide)) hk (fun _ h => h.2)) (fun _ h => h.1)); replace HK := Aside0.mk (KeepBut.trans (by repeat (first | (with_reducible first | exact HK.out | apply KeepBut.set_ | apply keep_drewN | apply keep_drew | apply keep_alloc) | exact HK.out)) hk (.inl rfl)); replace HB := Aside0.mk (hb); replace HI0 := Aside0.mk (hi); (try clear hb); (try clear hb2); (try clear hk); (try clear hi)) | ((with_reducible refine gate_callee (f := 25) rfl ?_); refine goesL_ (some 19) rfl rfl Tryd.func25 (by kernel_rfl) rfl #[.pointer (some ⟨g, 0, none⟩), .int .i64 2] rfl goA ?_; (with_reducible refine (customsmade_Source_Next.calls g s0_0 t26005 2 t26006 t26007 w0 _ ?side1 ?side2 A5.out).mono ?_); (case side1 => repeat (first | (with_reducible first | exact HI0.out | apply IsS55.alloc | apply IsS55.drewN | apply IsS55.drew | apply IsS55.set_1) | exact HI0.out)); (case side2 => repeat (first | (with_reducible first | exact HB.out | apply bA | apply bN | apply b1 | refine bS ?_ (IsS55.ge HI0.out)) | exact HB.out)); rintro e w18 ⟨rfl, hi, hb, hk⟩; refine ⟨_, rfl, ?_⟩; replace HO_5 := Aside0.mk (Kd.R_mono (Kd.R_keep (IsS55.apart (show IsS55 w0 _ g s0_0 t26005 from by repeat (first | (with_reducible first | exact HI0.out | apply IsS55.alloc | apply IsS55.drewN | apply IsS55.drew | apply IsS55.set_1) | exact HI0.out)) (Kd.R_ext HO_5.out) (by decide)) hk (fun _ h => h.2)) (fun _ h => h.1)); replace HK := Aside0.mk (KeepBut.trans (by repeat (first | (with_reducible first | exact HK.out | apply KeepBut.set_ | apply keep_drewN | apply keep_drew | apply keep_alloc) | exact HK.out)) hk (.inl rfl)); replace HB := Aside0.mk (hb); replace HI0 := Aside0.mk (hi); (try clear hb); (try clear hb2); (try clear hk); (try clear hi)) | ((with_reducible refine gate_builtin (b := .append) (xs := #[.tmp 33, .tmp 35]) rfl ?_); at_builtin; refine Kd.R_append (Kd.int .i64) w.heap.size rfl (.tmp 33) (.tmp 35) 27 3 (.int .i64 0) 8 rfl Tryd.underlying27 info3 rfl (by decide) (by omega) u5 x5_1 ji15 [.int .i64 ji15] (fun _ => True) (fun _ => False) rfl rfl ?aP (fun _ hk => hk.elim) ?aF ?aO (Below.refl _ _) ?aS ?aL ?_; (case aP => exact rfl); (case aF => exact (fun _ _ => trivial)); (case aO => exact (Kd.R_ext HO_5.out)); (case aS => exact (keep_size (w := w) (g := g) (row := none) (by repeat (first | (with_reducible first | exact HK.out | apply KeepBut.set_ | apply keep_drewN | apply keep_drew | apply keep_alloc) | exact HK.out)))); (case aL => have := LMc16.out; omega); intro v26014 w19 ho hb hg hat; rw [← Ny26013.out] at ho; have n0_ := Aside0.mk (IsS55.grown (by repeat (first | (with_reducible first | exact HI0.out | apply IsS55.alloc | apply IsS55.drewN | apply IsS55.drew | apply IsS55.set_1) | exact HI0.out)) hg (IsS55.own_ne HI0.out HO_5.out (by decide))); replace HB := Aside0.mk (below_weaken (by repeat (first | (with_reducible first | exact HB.out | apply bA | apply bN | apply b1 | refine bS ?_ (IsS55.ge HI0.out)) | exact HB.out)) HL.out hb); replace HK := Aside0.mk (KeepBut.trans (by repeat (first | (with_reducible first | exact HK.out | apply KeepBut.set_ | apply keep_drewN | apply keep_drew | apply keep_alloc) | exact HK.out)) (KeepBut.of_grown hg g) (Kd.R_base2 HO_5.out)); have HO26015 := Aside0.mk (ho); clear HI0; clear HO_5; have HI0 := n0_; clear n0_; clear ho hb hg hat))
     go_roundg k1
     case measure => have := HK1.out; omega
     case rel => exact ⟨(y26013), (wrap64 (x6_1 - (ji15))), (wrap64 (x7_1 + 1)), (t26007), (by first | rfl | (simp; done) | (simp only [← hji15] <;> (first | rfl | simp)) | (simp [*]; done)), rls, H', ⟨by have := HK1.out; omega⟩, ⟨Kd.R_ext HO26015.out⟩, ⟨by repeat (first | (with_reducible first | exact HI0.out | apply IsS55.alloc | apply IsS55.drewN | apply IsS55.drew | apply IsS55.set_1) | exact HI0.out)⟩, ⟨by repeat (first | (with_reducible first | exact HK.out | apply KeepBut.set_ | apply keep_drewN | apply keep_drew | apply keep_alloc) | exact HK.out)⟩, ⟨by repeat (first | (with_reducible first | exact HB.out | apply bA | apply bN | apply b1 | refine bS ?_ (IsS55.ge HI0.out)) | exact HB.out)⟩⟩
   ·
    rw [if_neg c3] at H
    have c3b0 : decide (x7_1 < a1) = false := decide_eq_false c3
    clear c3
    by_cases c20 : x5_1.length < 17592186044416
    ·
     rw [if_pos c20] at H
     have LMc20 := Aside0.mk c20
     clear c20
     obtain ⟨y26001, hy26001⟩ : ∃ y_ : List Int, y_ = (x5_1 ++ [x6_1]) := ⟨_, rfl⟩
     replace H : (some (y26001, x1001_1)) = some (r1, r2) := by first | (rw [hy26001]; with_reducible exact H) | (have H2_ := (Option.bind_some _ _).symm.trans H; rw [hy26001]; with_reducible exact H2_) | (have H2_ := (Option.bind_some _ _).symm.trans H; with_reducible exact H2_) | with_reducible exact H | (rw [hy26001]; exact H) | exact H
     have Ny26001 := Aside0.mk hy26001
     clear hy26001
     simp only [Option.some.injEq, Prod.mk.injEq] at H
     obtain ⟨rfl, rfl⟩ := H
     go_wp2_with (first | ((with_reducible refine gate_builtin (b := .append) (xs := #[.tmp 40, .tmp 42]) rfl ?_); at_builtin; refine Kd.R_append (Kd.int .i64) w.heap.size rfl (.tmp 40) (.tmp 42) 27 3 (.int .i64 0) 8 rfl Tryd.underlying27 info3 rfl (by decide) (by omega) u5 x5_1 x6_1 [.int .i64 x6_1] (fun _ => True) (fun _ => False) rfl rfl ?aP (fun _ hk => hk.elim) ?aF ?aO (Below.refl _ _) ?aS ?aL ?_; (case aP => exact rfl); (case aF => exact (fun _ _ => trivial)); (case aO => exact (Kd.R_ext HO_5.out)); (case aS => exact (keep_size (w := w) (g := g) (row := none) (by repeat (first | (with_reducible first | exact HK.out | apply KeepBut.set_ | apply keep_drewN | apply keep_drew | apply keep_alloc) | exact HK.out)))); (case aL => have := LMc20.out; omega); intro v26002 w21 ho hb hg hat; rw [← Ny26001.out] at ho; have n0_ := Aside0.mk (IsS55.grown (by repeat (first | (with_reducible first | exact HI0.out | apply IsS55.alloc | apply IsS55.drewN | apply IsS55.drew | apply IsS55.set_1) | exact HI0.out)) hg (IsS55.own_ne HI0.out HO_5.out (by decide))); replace HB := Aside0.mk (below_weaken (by repeat (first | (with_reducible first | exact HB.out | apply bA | apply bN | apply b1 | refine bS ?_ (IsS55.ge HI0.out)) | exact HB.out)) HL.out hb); replace HK := Aside0.mk (KeepBut.trans (by repeat (first | (with_reducible first | exact HK.out | apply KeepBut.set_ | apply keep_drewN | apply keep_drew | apply keep_alloc) | exact HK.out)) (KeepBut.of_grown hg g) (Kd.R_base2 HO_5.out)); have HO26003 := Aside0.mk (ho); clear HI0; clear HO_5; have HI0 := n0_; clear n0_; clear ho hb hg hat))
     go_ret
     exact ⟨_, by first | rfl | (simp [errW_none, errW_some] <;> rfl) | (simp [*, errW_none, errW_some] <;> rfl), Kd.R_ext HO26003.out, by repeat (first | (with_reducible first | exact HI0.out | apply IsS55.alloc | apply IsS55.drewN | apply IsS55.drew | apply IsS55.set_1) | exact HI0.out), by repeat (first | (with_reducible first | exact HB.out | apply bA | apply bN | apply b1 | refine bS ?_ (IsS55.ge HI0.out)) | exact HB.out), by repeat (first | (with_reducible first | exact HK.out | apply KeepBut.set_ | apply keep_drewN | apply keep_drew | apply keep_alloc) | exact HK.out)⟩
    ·
     rw [if_neg c20] at H
     exact absurd H (by simp)

end Go.Proofs.YtoolggpfgadjlaaDoor.Z
