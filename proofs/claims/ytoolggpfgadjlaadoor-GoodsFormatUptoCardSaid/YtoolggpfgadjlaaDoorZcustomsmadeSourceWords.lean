/- Printed: a Go function in plain Lean, and that its call does what it says. Conditions: those each theorem states. -/
import Derived.Test.YtoolggpfgadjlaaDoorZ0
import Derived.Test.YtoolggpfgadjlaaDoorZcustomsmadeSourceNext
import Derived.Test.YtoolggpfgadjlaaDoorZcustomsmadeVocabulary
namespace Go.Proofs.YtoolggpfgadjlaaDoor.Z
open Go.RowKit Go.Proofs.YtoolggpfgadjlaaDoorW.PrintWords Go.Proofs.YtoolggpfgadjlaaDoorW.PrintLast Go.Proofs.YtoolggpfgadjlaaDoorW.PrintMore
attribute [local go_sem high] str_leq str_geq str_gtr   -- strings
attribute [local go_sem] max2_int min2_int max_two min_two max_three min_three max_four min_four   -- for this text's walks alone
set_option linter.unusedVariables false
set_option linter.unusedSimpArgs false

/-! ### customsmade_Source_Words: function 24 -/
mutual
def customsmade_Source_Words.l0 : Nat → Int → List ByteArray → List ByteArray → Int → Int → List Int → Int → Option (List ByteArray × Int)
 | 0, _, _, _, _, _, _, _ => none
 | k + 1, x1, x5, x6, x7, x8, x1000, x1001 => if x8 < (x5.length : Int) then (customsmade_Source_Words.j1 k x1 x5 x6 x7 x8 (decide ((x6.length : Int) < x1)) x1000 x1001) else (customsmade_Source_Words.j1 k x1 x5 x6 x7 x8 false x1000 x1001)
def customsmade_Source_Words.j1 : Nat → Int → List ByteArray → List ByteArray → Int → Int → Bool → List Int → Int → Option (List ByteArray × Int)
 | 0, _, _, _, _, _, _, _, _ => none
 | k + 1, x1, x5, x6, x7, x8, x21, x1000, x1001 => if x21 = true then (if 0 ≤ x8 then (if (Go.bits .and .i64 (shr .i64 x7 x8) 1) = 1 then (if x8 < (x5.length : Int) then (if x6.length < 8796093022208 then (customsmade_Source_Words.l0 k x1 x5 (x6 ++ [rdOf ByteArray.empty x5 x8]) x7 (wrap64 (x8 + 1)) x1000 x1001) else (none)) else (none)) else (customsmade_Source_Words.l0 k x1 x5 x6 x7 (wrap64 (x8 + 1)) x1000 x1001)) else (none)) else (if (x6.length : Int) = 0 then (if (x5.length : Int) = 0 then (none) else (if 0 ≤ (Int.tmod x7 (x5.length : Int)) then (if (Int.tmod x7 (x5.length : Int)) < (x5.length : Int) then (some ((([rdOf ByteArray.empty x5 (Int.tmod x7 (x5.length : Int))] : List ByteArray)), x1001)) else (none)) else (none))) else (some (x6, x1001)))
end
def customsmade_Source_Words.f (k : Nat) (s0_0 : List Int) (s0_1 : Int) (a1 : Int) : Option (List ByteArray × Int) := (customsmade_Vocabulary.f).bind fun t24001 => ((customsmade_Source_Next.f s0_0 s0_1 512).bind fun bt24004 => (customsmade_Source_Words.l0 k a1 t24001 ([] : List ByteArray) bt24004.1 0 s0_0 bt24004.2))
theorem customsmade_Source_Words.mono_l : ∀ k, (∀ y0 y1 y2 y3 y4 y5 y6, LeO (customsmade_Source_Words.l0 k y0 y1 y2 y3 y4 y5 y6) (customsmade_Source_Words.l0 (k + 1) y0 y1 y2 y3 y4 y5 y6)) ∧ (∀ y0 y1 y2 y3 y4 y5 y6 y7, LeO (customsmade_Source_Words.j1 k y0 y1 y2 y3 y4 y5 y6 y7) (customsmade_Source_Words.j1 (k + 1) y0 y1 y2 y3 y4 y5 y6 y7))
 | 0 => ⟨fun _ _ _ _ _ _ _ r h => by simp [customsmade_Source_Words.l0] at h, fun _ _ _ _ _ _ _ _ r h => by simp [customsmade_Source_Words.j1] at h⟩
 | k + 1 => by
  obtain ⟨ih0, ih1⟩ := customsmade_Source_Words.mono_l k
  refine ⟨?_, ?_⟩ <;> intros
  all_goals first | unfold customsmade_Source_Words.l0 | unfold customsmade_Source_Words.j1
  all_goals repeat' first
   | (with_reducible exact ih0 _ _ _ _ _ _ _)
   | (with_reducible exact ih1 _ _ _ _ _ _ _ _)
   | (with_reducible exact LeO.refl _)
   | (with_reducible exact LeO.none _)
   | (with_reducible refine LeO.ite ?_ ?_)
   | (with_reducible refine LeO.bind ?_ (fun _ => ?_))
   | exact ih0 _ _ _ _ _ _ _
   | exact ih1 _ _ _ _ _ _ _ _
   | exact LeO.none _
   | refine LeO.ite ?_ ?_
   | refine LeO.bind ?_ (fun _ => ?_)
theorem customsmade_Source_Words.mono : ∀ a0 a1 a2 k, LeO (customsmade_Source_Words.f k a0 a1 a2) (customsmade_Source_Words.f (k + 1) a0 a1 a2) := by
 intro a0 a1 a2 k
 obtain ⟨ih0, ih1⟩ := customsmade_Source_Words.mono_l k
 unfold customsmade_Source_Words.f
 repeat' first
   | (with_reducible exact ih0 _ _ _ _ _ _ _)
   | (with_reducible exact ih1 _ _ _ _ _ _ _ _)
   | (with_reducible exact LeO.refl _)
   | (with_reducible exact LeO.none _)
   | (with_reducible refine LeO.ite ?_ ?_)
   | (with_reducible refine LeO.bind ?_ (fun _ => ?_))
   | exact ih0 _ _ _ _ _ _ _
   | exact ih1 _ _ _ _ _ _ _ _
   | exact LeO.none _
   | refine LeO.ite ?_ ?_
   | refine LeO.bind ?_ (fun _ => ?_)
set_option maxHeartbeats 8000000 in
set_option maxRecDepth 100000 in
theorem customsmade_Source_Words.calls (k : Nat) (g : Nat) (s0_0 : List Int) (s0_1 : Int) (a1 : Int) (r1 : List ByteArray) (r2 : Int) (w0 w : World) (hI : IsS55 w0 w g s0_0 s0_1) (hB : Below w0.heap.size w0 w) (h : customsmade_Source_Words.f k s0_0 s0_1 a1 = some (r1, r2)) :
  Calls Tryd.prog 24 #[.pointer (some ⟨g, 0, none⟩), .int .i64 a1] w fun e w' => ∃ v0_ : Value, e = .returned (v0_) ∧ Kd.R Kd.string 9 w' w.heap.size (fun _ => True) v0_ r1 ∧ IsS55 w0 w' g s0_0 r2 ∧ Below w0.heap.size w0 w' ∧ KeepBut w w' g none := by
 have HI0 := Aside0.mk hI
 have HK := Aside0.mk (KeepBut.refl w g none)
 have HL := Aside0.mk hB.size
 clear hI
 have HW0 := Aside0.mk hB.size
 have HB := Aside0.mk hB
 clear hB
 have H : ((customsmade_Vocabulary.f).bind fun t24001 => ((customsmade_Source_Next.f s0_0 s0_1 512).bind fun bt24004 => (customsmade_Source_Words.l0 k a1 t24001 ([] : List ByteArray) bt24004.1 0 s0_0 bt24004.2))) = some (r1, r2) := h
 clear h
 replace H := Option.bind_eq_some_iff.mp H
 obtain ⟨t24001, A30, H⟩ := H
 replace H : ((customsmade_Source_Next.f s0_0 s0_1 512).bind fun bt24004 => (customsmade_Source_Words.l0 k a1 t24001 ([] : List ByteArray) bt24004.1 0 s0_0 bt24004.2)) = some (r1, r2) := H
 have A3 := Aside0.mk A30
 clear A30
 replace H := Option.bind_eq_some_iff.mp H
 obtain ⟨⟨t24004, t24005⟩, A40, H⟩ := H
 replace H : (customsmade_Source_Words.l0 k a1 t24001 ([] : List ByteArray) t24004 0 s0_0 t24005) = some (r1, r2) := H
 have A4 := Aside0.mk A40
 clear A40
 have H' := Aside0.mk H
 clear H
 go_enter Tryd.func24, Tryd.ntmps24
 go_wp2_with (first | ((with_reducible refine gate_callee (f := 45) rfl ?_); refine goesL_ (some 9) rfl rfl Tryd.func45 (by kernel_rfl) rfl #[] rfl goA ?_; (with_reducible refine (customsmade_Vocabulary.calls  t24001 _ A3.out).mono ?_); rintro e w5 ⟨v24002, rfl, ho0, hb⟩; refine ⟨_, rfl, ?_⟩; have HO24003 := Aside0.mk (Kd.R_lower ho0 (keep_size (w := w) (g := g) (row := none) (by repeat (first | (with_reducible first | exact HK.out | apply KeepBut.set_ | apply keep_drewN | apply keep_drew | apply keep_alloc) | exact HK.out)))); have n1_ := Aside0.mk (IsS55.below (by repeat (first | (with_reducible first | exact HI0.out | apply IsS55.alloc | apply IsS55.drewN | apply IsS55.drew | apply IsS55.set_1) | exact HI0.out)) hb); replace HK := Aside0.mk (KeepBut.trans (by repeat (first | (with_reducible first | exact HK.out | apply KeepBut.set_ | apply keep_drewN | apply keep_drew | apply keep_alloc) | exact HK.out)) (KeepBut.of_below hb g none) (.inl rfl)); replace HB := Aside0.mk (below_step (by repeat (first | (with_reducible first | exact HB.out | apply bA | apply bN | apply b1 | refine bS ?_ (IsS55.ge HI0.out)) | exact HB.out)) hb); clear HI0; have HI0 := n1_; clear n1_; (try clear hb); (try clear hb2); (try clear hk); (try clear hi); (try clear ho0)) | ((with_reducible refine gate_callee (f := 25) rfl ?_); refine goesL_ (some 11) rfl rfl Tryd.func25 (by kernel_rfl) rfl #[.pointer (some ⟨g, 0, none⟩), .int .i64 512] rfl goA ?_; (with_reducible refine (customsmade_Source_Next.calls g s0_0 s0_1 512 t24004 t24005 w0 _ ?side1 ?side2 A4.out).mono ?_); (case side1 => repeat (first | (with_reducible first | exact HI0.out | apply IsS55.alloc | apply IsS55.drewN | apply IsS55.drew | apply IsS55.set_1) | exact HI0.out)); (case side2 => repeat (first | (with_reducible first | exact HB.out | apply bA | apply bN | apply b1 | refine bS ?_ (IsS55.ge HI0.out)) | exact HB.out)); rintro e w6 ⟨rfl, hi, hb, hk⟩; refine ⟨_, rfl, ?_⟩; replace HO24003 := Aside0.mk (Kd.R_mono (Kd.R_keep (IsS55.apart (show IsS55 w0 _ g s0_0 s0_1 from by repeat (first | (with_reducible first | exact HI0.out | apply IsS55.alloc | apply IsS55.drewN | apply IsS55.drew | apply IsS55.set_1) | exact HI0.out)) (Kd.R_ext HO24003.out) (by decide)) hk (fun _ h => h.2)) (fun _ h => h.1)); replace HK := Aside0.mk (KeepBut.trans (by repeat (first | (with_reducible first | exact HK.out | apply KeepBut.set_ | apply keep_drewN | apply keep_drew | apply keep_alloc) | exact HK.out)) hk (.inl rfl)); replace HB := Aside0.mk (hb); replace HI0 := Aside0.mk (hi); (try clear hb); (try clear hb2); (try clear hk); (try clear hi)))
 go_loopg [6, 8] k (fun kq v6 v8 w' => ∃ (x6_1 : List ByteArray) (x8_1 : Int), v8 = .int .i64 x8_1 ∧ Aside0 (customsmade_Source_Words.l0 kq a1 t24001 x6_1 t24004 x8_1 s0_0 t24005 = some (r1, r2)) ∧ Aside0 (kq ≤ k) ∧ Aside0 (Kd.R Kd.string 9 w' w.heap.size (fun k_ => some k_ ≠ (v6 : Value).ownBlock) v24002 t24001) ∧ Aside0 (Kd.R Kd.string 9 w' w.heap.size (fun k_ => some k_ ≠ (v24002 : Value).ownBlock) v6 x6_1) ∧ Aside0 (IsS55 w0 w' g s0_0 t24005) ∧ Aside0 (KeepBut w w' g none) ∧ Aside0 (Below w0.heap.size w0 w'))
 case atStart => exact ⟨(([] : List ByteArray)), (0), rls, H', ⟨Nat.le_refl _⟩, ⟨Kd.R_ext (Kd.R_mono HO24003.out (fun _ hk => (by simp [Value.ownBlock])))⟩, ⟨by first | exact Kd.R_nil _ _ _ _ _ | exact Kd.N_nil _ _ _ _ _ | exact Kd.V_nil _ _ _ _ _ | exact Kd.Q_nil _ _ _ _ _ | exact Kd.S_nil _ _ _ _ _⟩, ⟨by repeat (first | (with_reducible first | exact HI0.out | apply IsS55.alloc | apply IsS55.drewN | apply IsS55.drew | apply IsS55.set_1) | exact HI0.out)⟩, ⟨by repeat (first | (with_reducible first | exact HK.out | apply KeepBut.set_ | apply keep_drewN | apply keep_drew | apply keep_alloc) | exact HK.out)⟩, ⟨by repeat (first | (with_reducible first | exact HB.out | apply bA | apply bN | apply b1 | refine bS ?_ (IsS55.ge HI0.out)) | exact HB.out)⟩⟩
 case round =>
  clear H'
  try clear c2
  try clear p2
  try clear c4
  obtain ⟨x6_1, x8_1, rfl, HA, HK1, HO_5, HO_6, HI0, HK, HB⟩ := hrel
  cases gk with
  | zero => exact absurd HA.out (by simp [customsmade_Source_Words.l0])
  | succ k1 =>
   have H := HA.out
   clear HA
   simp only [customsmade_Source_Words.l0] at H
   have HC7 := Aside0.mk H
   clear H
   go_upto_region 5 with (fail)
   go_cut [21] (fun v21 wc => ∃ (kq : Nat) (x21_6 : Bool), v21 = .bool x21_6 ∧ Aside0 (customsmade_Source_Words.j1 kq a1 t24001 x6_1 t24004 x8_1 x21_6 s0_0 t24005 = some (r1, r2)) ∧ Aside0 (kq ≤ k1) ∧ Aside0 (Kd.R Kd.string 9 wc w.heap.size (fun k_ => some k_ ≠ (u6 : Value).ownBlock) v24002 t24001) ∧ Aside0 (Kd.R Kd.string 9 wc w.heap.size (fun k_ => some k_ ≠ (v24002 : Value).ownBlock) u6 x6_1) ∧ Aside0 (IsS55 w0 wc g s0_0 t24005) ∧ Aside0 (KeepBut w wc g none) ∧ Aside0 (Below w0.heap.size w0 wc))
   case first =>
    have H := HC7.out
    clear HC7
    by_cases c8 : x8_1 < (t24001.length : Int)
    ·
     rw [if_pos c8] at H
     have c8b0 : decide (x8_1 < (t24001.length : Int)) = true := decide_eq_true c8
     clear c8
     (first | rw [c8b0] | (simp only [i64_w, i32_w]; rw [c8b0]) | rw [c8b1] | skip)
     have H' := Aside0.mk H
     clear H
     obtain ⟨Ao9, co9, eo9⟩ := Kd.R_slice HO_5.out
     subst eo9
     obtain ⟨Ao10, co10, eo10⟩ := Kd.R_slice HO_6.out
     subst eo10
     go_wp2
     go_meet
     case rel => exact ⟨_, (decide ((x6_1.length : Int) < a1)), rls, H', ⟨by have := HK1.out; first | omega | exact Nat.le_refl _⟩, ⟨Kd.R_ext HO_5.out⟩, ⟨Kd.R_ext HO_6.out⟩, ⟨by repeat (first | (with_reducible first | exact HI0.out | apply IsS55.alloc | apply IsS55.drewN | apply IsS55.drew | apply IsS55.set_1) | exact HI0.out)⟩, ⟨by repeat (first | (with_reducible first | exact HK.out | apply KeepBut.set_ | apply keep_drewN | apply keep_drew | apply keep_alloc) | exact HK.out)⟩, ⟨by repeat (first | (with_reducible first | exact HB.out | apply bA | apply bN | apply b1 | refine bS ?_ (IsS55.ge HI0.out)) | exact HB.out)⟩⟩
    ·
     rw [if_neg c8] at H
     have c8b0 : decide (x8_1 < (t24001.length : Int)) = false := decide_eq_false c8
     clear c8
     (first | rw [c8b0] | (simp only [i64_w, i32_w]; rw [c8b0]) | rw [c8b1] | skip)
     have H' := Aside0.mk H
     clear H
     obtain ⟨Ao11, co11, eo11⟩ := Kd.R_slice HO_5.out
     subst eo11
     go_wp2
     go_meet
     case rel => exact ⟨_, (false), rls, H', ⟨by have := HK1.out; first | omega | exact Nat.le_refl _⟩, ⟨Kd.R_ext HO_5.out⟩, ⟨Kd.R_ext HO_6.out⟩, ⟨by repeat (first | (with_reducible first | exact HI0.out | apply IsS55.alloc | apply IsS55.drewN | apply IsS55.drew | apply IsS55.set_1) | exact HI0.out)⟩, ⟨by repeat (first | (with_reducible first | exact HK.out | apply KeepBut.set_ | apply keep_drewN | apply keep_drew | apply keep_alloc) | exact HK.out)⟩, ⟨by repeat (first | (with_reducible first | exact HB.out | apply bA | apply bN | apply b1 | refine bS ?_ (IsS55.ge HI0.out)) | exact HB.out)⟩⟩
   case rest =>
    clear HC7
    try clear c2
    try clear p2
    try clear c4
    try clear c8
    try clear c8b0
    try clear p2
    obtain ⟨kq, x21_6, rfl, HA, HJ6, HO_5, HO_6, HI0, HK, HB⟩ := hcut
    cases kq with
    | zero => exact absurd HA.out (by simp [customsmade_Source_Words.j1])
    | succ kj6 =>
     have H := HA.out
     clear HA
     simp only [customsmade_Source_Words.j1] at H
     by_cases c12 : x21_6 = true
     ·
      subst c12
      have H1 : (if 0 ≤ x8_1 then (if (Go.bits .and .i64 (shr .i64 t24004 x8_1) 1) = 1 then (if x8_1 < (t24001.length : Int) then (if x6_1.length < 8796093022208 then (customsmade_Source_Words.l0 kj6 a1 t24001 (x6_1 ++ [rdOf ByteArray.empty t24001 x8_1]) t24004 (wrap64 (x8_1 + 1)) s0_0 t24005) else (none)) else (none)) else (customsmade_Source_Words.l0 kj6 a1 t24001 x6_1 t24004 (wrap64 (x8_1 + 1)) s0_0 t24005)) else (none)) = some (r1, r2) := by rw [if_pos rfl] at H; exact H
      clear H
      have H := H1
      clear H1
      replace H := if_some H; obtain ⟨c13, H⟩ := H
      have c13b0 := eq_true c13
      have c13b1 : decide (0 ≤ x8_1) = true := decide_eq_true c13
      clear c13
      obtain ⟨ji14, hji14⟩ : ∃ j_ : Int, (shr .i64 t24004 x8_1) = j_ := ⟨_, rfl⟩
      replace H : (if (Go.bits .and .i64 (ji14) 1) = 1 then (if x8_1 < (t24001.length : Int) then (if x6_1.length < 8796093022208 then (customsmade_Source_Words.l0 kj6 a1 t24001 (x6_1 ++ [rdOf ByteArray.empty t24001 x8_1]) t24004 (wrap64 (x8_1 + 1)) s0_0 t24005) else (none)) else (none)) else (customsmade_Source_Words.l0 kj6 a1 t24001 x6_1 t24004 (wrap64 (x8_1 + 1)) s0_0 t24005)) = some (r1, r2) := by first | (rw [hji14] at H; exact H) | (simp only [hji14] at H ⊢; exact H)
      have hji14_ : (t24004 / 2 ^ min x8_1.toNat 64) = ji14 := hji14
      have hji14z : x8_1 ≤ 64 → (t24004 / 2 ^ x8_1.toNat) = ji14 := shr_small hji14
      by_cases c15 : (Go.bits .and .i64 (ji14) 1) = 1
      ·
       rw [if_pos c15] at H
       have c15b0 : ((Go.bits .and .i64 (ji14) 1) == 1) = true := beq_iff_eq.mpr c15
       have c15b1 : ((Go.bits .and .i64 (ji14) 1) != 1) = false := bne_eq_false_iff_eq.mpr c15
       clear c15
       replace H := if_some H; obtain ⟨c16, H⟩ := H
       have c16b0 : decide (x8_1 < (t24001.length : Int)) = true := decide_eq_true c16
       clear c16
       replace H := if_some H; obtain ⟨c17, H⟩ := H
       have LMc17 := Aside0.mk c17
       clear c17
       obtain ⟨y24007, hy24007⟩ : ∃ y_ : List ByteArray, y_ = (x6_1 ++ [rdOf ByteArray.empty t24001 x8_1]) := ⟨_, rfl⟩
       replace H : (customsmade_Source_Words.l0 kj6 a1 t24001 y24007 t24004 (wrap64 (x8_1 + 1)) s0_0 t24005) = some (r1, r2) := by first | (rw [hy24007]; with_reducible exact H) | (have H2_ := (Option.bind_some _ _).symm.trans H; rw [hy24007]; with_reducible exact H2_) | (have H2_ := (Option.bind_some _ _).symm.trans H; with_reducible exact H2_) | with_reducible exact H | (rw [hy24007]; exact H) | exact H
       have Ny24007 := Aside0.mk hy24007
       clear hy24007
       have H' := Aside0.mk H
       clear H
       obtain ⟨Ao18, co18, eo18⟩ := Kd.R_slice HO_5.out
       subst eo18
       have p24006 : 0 ≤ (x8_1 : Int) := odt
       have q24006 : x8_1 < (t24001.length : Int) := odt
       obtain ⟨ad24006, e24006, hx24006_0⟩ := Kd.at_string (Kd.R_reads' HO_5.out).2.2 x8_1 p24006 q24006
       cases e24006
       replace p24006 := eq_true p24006
       replace q24006 := eq_true q24006
       go_wp2_with (first | ((with_reducible refine gate_builtin (b := .append) (xs := #[.tmp 29, .tmp 34]) rfl ?_); (try (refine gate_guard (by rfl) ?_; dsimp only)); at_builtin; refine Kd.R_append Kd.string w.heap.size rfl (.tmp 29) (.tmp 34) 22 9 (.string ⟨#[]⟩) 16 rfl Tryd.underlying22 info9 rfl (by decide) (by omega) u6 x6_1 (rdOf ByteArray.empty t24001 x8_1) [.string (rdOf ByteArray.empty t24001 x8_1)] (fun k_ => some k_ ≠ (.slice (some ad24006) t24001.length co18 : Value).ownBlock) (fun _ => False) rfl rfl ?aP (fun _ hk => hk.elim) ?aF ?aO (Below.refl _ _) ?aS ?aL ?_; (case aP => exact rfl); (case aF => exact (fun k_ hk => Kd.fresh' (Kd.R_lt (Kd.R_ext HO_5.out)) k_ hk)); (case aO => exact (Kd.R_ext HO_6.out)); (case aS => exact (keep_size (w := w) (g := g) (row := none) (by repeat (first | (with_reducible first | exact HK.out | apply KeepBut.set_ | apply keep_drewN | apply keep_drew | apply keep_alloc) | exact HK.out)))); (case aL => have := LMc17.out; omega); intro v24008 w19 ho hb hg hat; rw [← Ny24007.out] at ho; replace HO_5 := Aside0.mk (Kd.R_after (ok := (fun _ => True)) (Kd.R_ext (Kd.R_mono HO_5.out (fun _ hk => ⟨trivial, hk⟩))) hg hat); have n1_ := Aside0.mk (IsS55.grown (by repeat (first | (with_reducible first | exact HI0.out | apply IsS55.alloc | apply IsS55.drewN | apply IsS55.drew | apply IsS55.set_1) | exact HI0.out)) hg (IsS55.own_ne HI0.out HO_6.out (by decide))); replace HB := Aside0.mk (below_weaken (by repeat (first | (with_reducible first | exact HB.out | apply bA | apply bN | apply b1 | refine bS ?_ (IsS55.ge HI0.out)) | exact HB.out)) HL.out hb); replace HK := Aside0.mk (KeepBut.trans (by repeat (first | (with_reducible first | exact HK.out | apply KeepBut.set_ | apply keep_drewN | apply keep_drew | apply keep_alloc) | exact HK.out)) (KeepBut.of_grown hg g) (Kd.R_base2 HO_6.out)); have HO24009 := Aside0.mk (ho); clear HI0; clear HO_6; have HI0 := n1_; clear n1_; clear ho hb hg hat))
       go_roundg kj6
       case measure => have := HK1.out; have := HJ6.out; omega
       case rel => exact ⟨(y24007), (wrap64 (x8_1 + 1)), rls, H', ⟨by have := HK1.out; have := HJ6.out; omega⟩, ⟨Kd.R_ext (Kd.R_mono HO_5.out (fun _ hk => hk.2))⟩, ⟨Kd.R_ext HO24009.out⟩, ⟨by repeat (first | (with_reducible first | exact HI0.out | apply IsS55.alloc | apply IsS55.drewN | apply IsS55.drew | apply IsS55.set_1) | exact HI0.out)⟩, ⟨by repeat (first | (with_reducible first | exact HK.out | apply KeepBut.set_ | apply keep_drewN | apply keep_drew | apply keep_alloc) | exact HK.out)⟩, ⟨by repeat (first | (with_reducible first | exact HB.out | apply bA | apply bN | apply b1 | refine bS ?_ (IsS55.ge HI0.out)) | exact HB.out)⟩⟩
      ·
       rw [if_neg c15] at H
       have c15b0 : ((Go.bits .and .i64 (ji14) 1) == 1) = false := beq_eq_false_iff_ne.mpr c15
       have c15b1 : ((Go.bits .and .i64 (ji14) 1) != 1) = true := bne_iff_ne.mpr c15
       have H' := Aside0.mk H
       clear H
       go_wp2
       go_roundg kj6
       case measure => have := HK1.out; have := HJ6.out; omega
       case rel => exact ⟨(x6_1), (wrap64 (x8_1 + 1)), rls, H', ⟨by have := HK1.out; have := HJ6.out; omega⟩, ⟨Kd.R_ext HO_5.out⟩, ⟨Kd.R_ext HO_6.out⟩, ⟨by repeat (first | (with_reducible first | exact HI0.out | apply IsS55.alloc | apply IsS55.drewN | apply IsS55.drew | apply IsS55.set_1) | exact HI0.out)⟩, ⟨by repeat (first | (with_reducible first | exact HK.out | apply KeepBut.set_ | apply keep_drewN | apply keep_drew | apply keep_alloc) | exact HK.out)⟩, ⟨by repeat (first | (with_reducible first | exact HB.out | apply bA | apply bN | apply b1 | refine bS ?_ (IsS55.ge HI0.out)) | exact HB.out)⟩⟩
     ·
      replace c12 := Bool.eq_false_iff.mpr c12
      subst c12
      have H1 : (if (x6_1.length : Int) = 0 then (if (t24001.length : Int) = 0 then (none) else (if 0 ≤ (Int.tmod t24004 (t24001.length : Int)) then (if (Int.tmod t24004 (t24001.length : Int)) < (t24001.length : Int) then (some ((([rdOf ByteArray.empty t24001 (Int.tmod t24004 (t24001.length : Int))] : List ByteArray)), t24005)) else (none)) else (none))) else (some (x6_1, t24005))) = some (r1, r2) := by rw [if_neg (show ¬ (false = true) by decide)] at H; exact H
      clear H
      have H := H1
      clear H1
      by_cases c20 : (x6_1.length : Int) = 0
      ·
       rw [if_pos c20] at H
       have c20b0 : ((x6_1.length : Int) == 0) = true := beq_iff_eq.mpr c20
       have c20b1 : ((x6_1.length : Int) != 0) = false := bne_eq_false_iff_eq.mpr c20
       clear c20
       replace H := if_none H; obtain ⟨c21, H⟩ := H
       have c21b0 : ((t24001.length : Int) == 0) = false := beq_eq_false_iff_ne.mpr c21
       have c21b1 : ((t24001.length : Int) != 0) = true := bne_iff_ne.mpr c21
       have c21b2 : ¬ (t24001 = []) := fun h_ => c21 (by rw [h_]; rfl)
       obtain ⟨ji22, hji22⟩ : ∃ j_ : Int, (Int.tmod t24004 (t24001.length : Int)) = j_ := ⟨_, rfl⟩
       replace H : (if 0 ≤ (ji22) then (if (ji22) < (t24001.length : Int) then (some ((([rdOf ByteArray.empty t24001 (ji22)] : List ByteArray)), t24005)) else (none)) else (none)) = some (r1, r2) := by first | (rw [hji22] at H; exact H) | (simp only [hji22] at H ⊢; exact H)
       replace H := if_some H; obtain ⟨c23, H⟩ := H
       have c23b0 : decide (0 ≤ (ji22)) = true := decide_eq_true c23
       clear c23
       replace H := if_some H; obtain ⟨c24, H⟩ := H
       have c24b0 : decide ((ji22) < (t24001.length : Int)) = true := decide_eq_true c24
       clear c24
       obtain ⟨y24011, hy24011⟩ : ∃ y_ : List ByteArray, y_ = (([rdOf ByteArray.empty t24001 (ji22)] : List ByteArray)) := ⟨_, rfl⟩
       replace H : (some (y24011, t24005)) = some (r1, r2) := by first | (rw [hy24011]; with_reducible exact H) | (have H2_ := (Option.bind_some _ _).symm.trans H; rw [hy24011]; with_reducible exact H2_) | (have H2_ := (Option.bind_some _ _).symm.trans H; with_reducible exact H2_) | with_reducible exact H | (rw [hy24011]; exact H) | exact H
       have Ny24011 := Aside0.mk hy24011
       clear hy24011
       simp only [Option.some.injEq, Prod.mk.injEq] at H
       obtain ⟨rfl, rfl⟩ := H
       obtain ⟨Ao25, co25, eo25⟩ := Kd.R_slice HO_6.out
       subst eo25
       obtain ⟨Ao26, co26, eo26⟩ := Kd.R_slice HO_5.out
       subst eo26
       have p24010 : 0 ≤ ((ji22) : Int) := odt
       have q24010 : (ji22) < (t24001.length : Int) := odt
       obtain ⟨ad24010, e24010, hx24010_0⟩ := Kd.at_string (Kd.R_reads' HO_5.out).2.2 (ji22) p24010 q24010
       cases e24010
       replace p24010 := eq_true p24010
       replace q24010 := eq_true q24010
       go_wp2_with (first | ((with_reducible refine gate_dst (N := 46) rfl ?_); (try (refine gate_guard (by rfl) ?_; dsimp only)); refine Kd.R_lit Kd.string _ 9 ?hg (N := 46) ?hd (xs := ([rdOf ByteArray.empty t24001 (ji22)] : List ByteArray)) (inner := [.string (rdOf ByteArray.empty t24001 (ji22))]) (ok := fun _ => True) (okp := fun _ => True) ?hr ?hp (fun _ hk => hk) trivial (Below.refl _ _) (Nat.le_refl _) (by simp) ?_; (case hd => rfl); (case hg => rfl); (case hr => exact goR); (case hp => exact (Reps.one (show Kd.M Kd.string _ _ _ (rdOf ByteArray.empty t24001 (ji22)) [.string (rdOf ByteArray.empty t24001 (ji22))] from rfl) (Reps.none _ _))); intro v24012 w27 ho28 hb hg_ hnew_; clear hg_ hnew_; (first | rw [← Ny24011.out] at ho28 | (simp only [Int.reduceToNat] at ho28; rw [← Ny24011.out] at ho28)); have HO24013 := Aside0.mk (Kd.R_lower (Kd.R_new' (Kd.R_new' ho28 (Kd.R_lt (Kd.R_ext HO_5.out))) (Kd.R_lt (Kd.R_ext HO_6.out))) (keep_size (w := w) (g := g) (row := none) (by repeat (first | (with_reducible first | exact HK.out | apply KeepBut.set_ | apply keep_drewN | apply keep_drew | apply keep_alloc) | exact HK.out)))); have n3_ := Aside0.mk (IsS55.below (by repeat (first | (with_reducible first | exact HI0.out | apply IsS55.alloc | apply IsS55.drewN | apply IsS55.drew | apply IsS55.set_1) | exact HI0.out)) hb); replace HK := Aside0.mk (KeepBut.trans (by repeat (first | (with_reducible first | exact HK.out | apply KeepBut.set_ | apply keep_drewN | apply keep_drew | apply keep_alloc) | exact HK.out)) (KeepBut.of_below hb g none) (.inl rfl)); replace HB := Aside0.mk (below_step (by repeat (first | (with_reducible first | exact HB.out | apply bA | apply bN | apply b1 | refine bS ?_ (IsS55.ge HI0.out)) | exact HB.out)) hb); clear HI0; have HI0 := n3_; replace HO_5 := apR HO_5 hb (Kd.R_base ho28); replace HO_6 := apR HO_6 hb (Kd.R_base ho28); clear n3_; clear hb ho28))
       go_ret
       exact ⟨_, by first | rfl | (simp [errW_none, errW_some] <;> rfl) | (simp only [← hji22]; first | rfl | (simp [errW_none, errW_some] <;> rfl)) | (simp [*, errW_none, errW_some] <;> rfl), Kd.R_ext (Kd.R_mono HO24013.out (fun _ hk => trivial)), by repeat (first | (with_reducible first | exact HI0.out | apply IsS55.alloc | apply IsS55.drewN | apply IsS55.drew | apply IsS55.set_1) | exact HI0.out), by repeat (first | (with_reducible first | exact HB.out | apply bA | apply bN | apply b1 | refine bS ?_ (IsS55.ge HI0.out)) | exact HB.out), by repeat (first | (with_reducible first | exact HK.out | apply KeepBut.set_ | apply keep_drewN | apply keep_drew | apply keep_alloc) | exact HK.out)⟩
      ·
       rw [if_neg c20] at H
       have c20b0 : ((x6_1.length : Int) == 0) = false := beq_eq_false_iff_ne.mpr c20
       have c20b1 : ((x6_1.length : Int) != 0) = true := bne_iff_ne.mpr c20
       have c20b2 : ¬ (x6_1 = []) := fun h_ => c20 (by rw [h_]; rfl)
       simp only [Option.some.injEq, Prod.mk.injEq] at H
       obtain ⟨rfl, rfl⟩ := H
       obtain ⟨Ao29, co29, eo29⟩ := Kd.R_slice HO_6.out
       subst eo29
       go_wp2
       go_ret
       exact ⟨_, by first | rfl | (simp [errW_none, errW_some] <;> rfl) | (simp [*, errW_none, errW_some] <;> rfl), Kd.R_ext (Kd.R_mono HO_6.out (fun _ hk => trivial)), by repeat (first | (with_reducible first | exact HI0.out | apply IsS55.alloc | apply IsS55.drewN | apply IsS55.drew | apply IsS55.set_1) | exact HI0.out), by repeat (first | (with_reducible first | exact HB.out | apply bA | apply bN | apply b1 | refine bS ?_ (IsS55.ge HI0.out)) | exact HB.out), by repeat (first | (with_reducible first | exact HK.out | apply KeepBut.set_ | apply keep_drewN | apply keep_drew | apply keep_alloc) | exact HK.out)⟩

end Go.Proofs.YtoolggpfgadjlaaDoor.Z
