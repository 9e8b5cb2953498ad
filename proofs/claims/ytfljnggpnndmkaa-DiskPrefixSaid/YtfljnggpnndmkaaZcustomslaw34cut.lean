/- Written by a program of this session: each Go function as a plain Lean function, and that the machine's call does what it says. Conditions: none but those each theorem states. -/
import Derived.Test.YtfljnggpnndmkaaZ0
namespace Go.Proofs.Ytfljnggpnndmkaa.Z
open Go.RowKit Go.Proofs.YtfljnggpnndmkaaW.PrintWords Go.Proofs.YtfljnggpnndmkaaW.PrintLast Go.Proofs.YtfljnggpnndmkaaW.PrintMore
attribute [local go_sem] max2_int min2_int max_two min_two max_three min_three max_four min_four   -- for this text's walks alone
set_option linter.unusedVariables false
set_option linter.unusedSimpArgs false

/-! ### customslaw34_cut: function 56 -/
mutual
def customslaw34_cut.l0 : Nat → List (List Int) → List (List Int) → Int → Option ((List (List Int)))
  | 0, _, _, _ => none
  | k + 1, x0, x3, x4 => if x4 < (x0.length : Int) then (customslaw34_cut.j1 k x0 x3 x4 (decide (x4 < 16))) else (customslaw34_cut.j1 k x0 x3 x4 false)
def customslaw34_cut.j1 : Nat → List (List Int) → List (List Int) → Int → Bool → Option ((List (List Int)))
  | 0, _, _, _, _ => none
  | k + 1, x0, x3, x4, x13 => if x13 = true then (if 0 ≤ x4 then (if x4 < (x0.length : Int) then (if ((rd_L1 x0 x4).length : Int) > 300 then (if 300 ≤ ((rd_L1 x0 x4).length : Int) then (if x3.length < 5864062014805 then (customslaw34_cut.l0 k x0 (x3 ++ [((rd_L1 x0 x4).take 300)]) (wrap64 (x4 + 1))) else (none)) else (none)) else (if x3.length < 5864062014805 then (customslaw34_cut.l0 k x0 (x3 ++ [rd_L1 x0 x4]) (wrap64 (x4 + 1))) else (none))) else (none)) else (none)) else (some x3)
end
def customslaw34_cut.f (k : Nat) (l0 : List (List Int)) : Option ((List (List Int))) := customslaw34_cut.l0 k l0 ([] : List (List Int)) 0
theorem customslaw34_cut.mono_l : ∀ k, (∀ y0 y1 y2, LeO (customslaw34_cut.l0 k y0 y1 y2) (customslaw34_cut.l0 (k + 1) y0 y1 y2)) ∧ (∀ y0 y1 y2 y3, LeO (customslaw34_cut.j1 k y0 y1 y2 y3) (customslaw34_cut.j1 (k + 1) y0 y1 y2 y3))
  | 0 => ⟨fun _ _ _ r h => by simp [customslaw34_cut.l0] at h, fun _ _ _ _ r h => by simp [customslaw34_cut.j1] at h⟩
  | k + 1 => by
    obtain ⟨ih0, ih1⟩ := customslaw34_cut.mono_l k
    refine ⟨?_, ?_⟩
    · intro y0 y1 y2
      unfold customslaw34_cut.l0
      repeat' first
      | (with_reducible exact ih0 _ _ _)
      | (with_reducible exact ih1 _ _ _ _)
      | (with_reducible exact LeO.refl _)
      | (with_reducible exact LeO.none _)
      | (with_reducible refine LeO.ite ?_ ?_)
      | (with_reducible refine LeO.bind ?_ (fun _ => ?_))
      | exact ih0 _ _ _
      | exact ih1 _ _ _ _
      | exact LeO.none _
      | refine LeO.ite ?_ ?_
      | refine LeO.bind ?_ (fun _ => ?_)
    · intro y0 y1 y2 y3
      unfold customslaw34_cut.j1
      repeat' first
      | (with_reducible exact ih0 _ _ _)
      | (with_reducible exact ih1 _ _ _ _)
      | (with_reducible exact LeO.refl _)
      | (with_reducible exact LeO.none _)
      | (with_reducible refine LeO.ite ?_ ?_)
      | (with_reducible refine LeO.bind ?_ (fun _ => ?_))
      | exact ih0 _ _ _
      | exact ih1 _ _ _ _
      | exact LeO.none _
      | refine LeO.ite ?_ ?_
      | refine LeO.bind ?_ (fun _ => ?_)
theorem customslaw34_cut.mono : ∀ a0 k, LeO (customslaw34_cut.f k a0) (customslaw34_cut.f (k + 1) a0) := by
  intro a0 k
  obtain ⟨ih0, ih1⟩ := customslaw34_cut.mono_l k
  unfold customslaw34_cut.f
  repeat' first
      | (with_reducible exact ih0 _ _ _)
      | (with_reducible exact ih1 _ _ _ _)
      | (with_reducible exact LeO.refl _)
      | (with_reducible exact LeO.none _)
      | (with_reducible refine LeO.ite ?_ ?_)
      | (with_reducible refine LeO.bind ?_ (fun _ => ?_))
      | exact ih0 _ _ _
      | exact ih1 _ _ _ _
      | exact LeO.none _
      | refine LeO.ite ?_ ?_
      | refine LeO.bind ?_ (fun _ => ?_)
set_option maxHeartbeats 8000000 in
set_option maxRecDepth 100000 in
theorem customslaw34_cut.calls (k : Nat) (P0_ : Nat → Prop) (A0 : Option Addr) (c0 : Nat) (l0 : List (List Int)) (r : List (List Int)) (w : World) (hs0 : Kd.V (Kd.slice 5 (Kd.int .u8)) 22 w w.heap.size (fun k_ => P0_ k_) (.slice A0 l0.length c0) l0) (h : customslaw34_cut.f k l0 = some r) :
    Calls Try.prog 56 #[.slice A0 l0.length c0] w fun e w' => ∃ v0_ : Value, e = .returned (v0_) ∧ Kd.N (Kd.slice 5 (Kd.int .u8)) 22 w' w.heap.size (fun k_ => (P0_ k_ ∨ w.heap.size ≤ k_)) v0_ r ∧ Below w.heap.size w w' := by
  have HO0 := Aside0.mk (show Kd.V (Kd.slice 5 (Kd.int .u8)) 22 w w.heap.size (fun k_ => (P0_ k_ ∨ w.heap.size ≤ k_)) (.slice A0 l0.length c0) l0 from Kd.V_mono hs0 (fun k_ hk => .inl hk))
  have HB := Aside0.mk (Below.refl w.heap.size w)
  have H : (customslaw34_cut.l0 k l0 ([] : List (List Int)) 0) = some r := h
  clear h
  have H' := Aside0.mk H
  clear H
  go_enter Try.func56, Try.ntmps56
  go_wp2
  go_loopg [3, 4] k (fun kq v3 v4 w' => ∃ (x3_1 : List (List Int)) (x4_1 : Int), v4 = .int .i64 x4_1 ∧ Aside0 (customslaw34_cut.l0 kq l0 x3_1 x4_1 = some r) ∧ Aside0 (kq ≤ k) ∧ Aside0 (Kd.V (Kd.slice 5 (Kd.int .u8)) 22 w' w.heap.size (fun k_ => (P0_ k_ ∨ w.heap.size ≤ k_) ∧ some k_ ≠ (v3 : Value).ownBlock) (.slice A0 l0.length c0) l0) ∧ Aside0 (Kd.N (Kd.slice 5 (Kd.int .u8)) 22 w' w.heap.size (fun k_ => (P0_ k_ ∨ w.heap.size ≤ k_)) v3 x3_1) ∧ Aside0 (Below w.heap.size w w'))
  case atStart => exact ⟨(([] : List (List Int))), (0), (by first | rfl | (simp; done) | (simp [*]; done)), H', ⟨Nat.le_refl _⟩, ⟨Kd.V_ext (Kd.V_mono HO0.out (fun _ hk => ⟨hk, (by simp [Value.ownBlock])⟩))⟩, ⟨by first | exact Kd.S_nil _ _ _ _ _ | exact Kd.N_nil _ _ _ _ _ | exact Kd.V_nil _ _ _ _ _ | exact Kd.Q_nil _ _ _ _ _ | exact Kd.R_nil _ _ _ _ _⟩, ⟨below_ext HB.out⟩⟩
  case round =>
    clear H'
    obtain ⟨x3_1, x4_1, rfl, HA, HK1, HO_0, HO_3, HB⟩ := hrel
    cases gk with
    | zero => exact absurd HA.out (by simp [customslaw34_cut.l0])
    | succ k1 =>
      have H := HA.out
      clear HA
      simp only [customslaw34_cut.l0] at H
      have HC2 := Aside0.mk H
      clear H
      go_upto_region 3 with (fail)
      go_cut [13] (fun v13 wc => ∃ (kq : Nat) (x13_1 : Bool), v13 = .bool x13_1 ∧ Aside0 (customslaw34_cut.j1 kq l0 x3_1 x4_1 x13_1 = some r) ∧ Aside0 (kq ≤ k1) ∧ Aside0 (Kd.V (Kd.slice 5 (Kd.int .u8)) 22 wc w.heap.size (fun k_ => (P0_ k_ ∨ w.heap.size ≤ k_) ∧ some k_ ≠ (u3 : Value).ownBlock) (.slice A0 l0.length c0) l0) ∧ Aside0 (Kd.N (Kd.slice 5 (Kd.int .u8)) 22 wc w.heap.size (fun k_ => (P0_ k_ ∨ w.heap.size ≤ k_)) u3 x3_1) ∧ Aside0 (Below w.heap.size w wc))
      case first =>
        have H := HC2.out
        clear HC2
        by_cases c3 : x4_1 < (l0.length : Int)
        · rw [if_pos c3] at H
          have c3b0 : decide (x4_1 < (l0.length : Int)) = true := decide_eq_true c3
          clear c3
          (first | rw [c3b0] | (simp only [i64_w, i32_w]; rw [c3b0]) | skip)
          have H' := Aside0.mk H
          clear H
          go_wp2
          go_meet
          case rel => exact ⟨_, (decide (x4_1 < 16)), (by first | rfl | (simp; done) | (simp [*]; done)), H', ⟨by have := HK1.out; first | omega | exact Nat.le_refl _⟩, ⟨Kd.V_ext HO_0.out⟩, ⟨Kd.N_ext HO_3.out⟩, ⟨below_ext HB.out⟩⟩
        · rw [if_neg c3] at H
          have c3b0 : decide (x4_1 < (l0.length : Int)) = false := decide_eq_false c3
          clear c3
          (first | rw [c3b0] | (simp only [i64_w, i32_w]; rw [c3b0]) | skip)
          have H' := Aside0.mk H
          clear H
          go_wp2
          go_meet
          case rel => exact ⟨_, (false), (by first | rfl | (simp; done) | (simp [*]; done)), H', ⟨by have := HK1.out; first | omega | exact Nat.le_refl _⟩, ⟨Kd.V_ext HO_0.out⟩, ⟨Kd.N_ext HO_3.out⟩, ⟨below_ext HB.out⟩⟩
      case rest =>
        clear HC2
        try clear p2
        try clear c3
        try clear c3b0
        obtain ⟨kq, x13_1, rfl, HA, HJ1, HO_0, HO_3, HB⟩ := hcut
        cases kq with
        | zero => exact absurd HA.out (by simp [customslaw34_cut.j1])
        | succ kj1 =>
          have H := HA.out
          clear HA
          simp only [customslaw34_cut.j1] at H
          by_cases c4 : x13_1 = true
          · subst c4
            have H1 : (if 0 ≤ x4_1 then (if x4_1 < (l0.length : Int) then (if ((rd_L1 l0 x4_1).length : Int) > 300 then (if 300 ≤ ((rd_L1 l0 x4_1).length : Int) then (if x3_1.length < 5864062014805 then (customslaw34_cut.l0 kj1 l0 (x3_1 ++ [((rd_L1 l0 x4_1).take 300)]) (wrap64 (x4_1 + 1))) else (none)) else (none)) else (if x3_1.length < 5864062014805 then (customslaw34_cut.l0 kj1 l0 (x3_1 ++ [rd_L1 l0 x4_1]) (wrap64 (x4_1 + 1))) else (none))) else (none)) else (none)) = some r := by rw [if_pos rfl] at H; exact H
            clear H
            have H := H1
            clear H1
            replace H := if_some H; obtain ⟨c5, H⟩ := H
            have c5b0 : decide (0 ≤ x4_1) = true := decide_eq_true c5
            clear c5
            replace H := if_some H; obtain ⟨c6, H⟩ := H
            have c6b0 : decide (x4_1 < (l0.length : Int)) = true := decide_eq_true c6
            clear c6
            by_cases c7 : ((rd_L1 l0 x4_1).length : Int) > 300
            · rw [if_pos c7] at H
              have c7b0 : decide (300 < ((rd_L1 l0 x4_1).length : Int)) = true := decide_eq_true c7
              have c7b1 : decide (300 < (rd_L1 l0 x4_1).length) = true := decide_eq_true (by omega)
              clear c7
              replace H := if_some H; obtain ⟨c8, H⟩ := H
              have c8b0 := eq_true c8
              have c8b1 : decide (300 ≤ ((rd_L1 l0 x4_1).length : Int)) = true := decide_eq_true c8
              clear c8
              obtain ⟨y56002, hy56002⟩ : ∃ y_ : List Int, y_ = ((rd_L1 l0 x4_1).take 300) := ⟨_, rfl⟩
              replace H : (if x3_1.length < 5864062014805 then (customslaw34_cut.l0 kj1 l0 (x3_1 ++ [y56002]) (wrap64 (x4_1 + 1))) else (none)) = some r := by first | (rw [hy56002]; with_reducible exact H) | (have H2_ := (Option.bind_some _ _).symm.trans H; rw [hy56002]; with_reducible exact H2_) | (have H2_ := (Option.bind_some _ _).symm.trans H; with_reducible exact H2_) | with_reducible exact H | (rw [hy56002]; exact H) | exact H
              have Ny56002 := Aside0.mk hy56002
              clear hy56002
              replace H := if_some H; obtain ⟨c9, H⟩ := H
              have LMc9 := Aside0.mk c9
              clear c9
              obtain ⟨y56007, hy56007⟩ : ∃ y_ : List (List Int), y_ = (x3_1 ++ [y56002]) := ⟨_, rfl⟩
              replace H : (customslaw34_cut.l0 kj1 l0 y56007 (wrap64 (x4_1 + 1))) = some r := by first | (rw [hy56007]; with_reducible exact H) | (have H2_ := (Option.bind_some _ _).symm.trans H; rw [hy56007]; with_reducible exact H2_) | (have H2_ := (Option.bind_some _ _).symm.trans H; with_reducible exact H2_) | with_reducible exact H | (rw [hy56007]; exact H) | exact H
              have Ny56007 := Aside0.mk hy56007
              clear hy56007
              have H' := Aside0.mk H
              clear H
              have p56001 : 0 ≤ (x4_1 : Int) := of_decide_eq_true (by first | (with_reducible assumption) | assumption)
              have q56001 : x4_1 < (l0.length : Int) := of_decide_eq_true (by first | (with_reducible assumption) | assumption)
              obtain ⟨ad56001, A56001_0, c56001_0, e56001, hx56001_0, hl56001_0, hi56001_0⟩ := at_L1 (Kd.V_reads' HO_0.out).2.2 x4_1 p56001 q56001
              cases e56001
              obtain ⟨ce56001, hce56001, hMe56001, hcc56001⟩ := Kd.V_get HO_0.out [] x4_1 p56001 (by first | exact q56001 | exact of_decide_eq_true (by first | (with_reducible assumption) | assumption) | (have e_ := (Kd.V_reads' HO_0.out).1; omega))
              obtain ⟨ua56001_0, uc56001_0, rfl, ul56001_0, ge56001_0⟩ := Kd.FK_slice_open hMe56001
              have hv56001_0 := hcc56001 0 _ rfl
              rw [Nat.add_zero, show ((Kd.slice 5 (Kd.int .u8))).sz = 1 from rfl, Nat.mul_one] at hv56001_0
              replace hv56001_0 := Option.some.inj (hv56001_0.symm.trans hx56001_0)
              injection hv56001_0 with hva_ hvn_ hvc_
              rw [hva_] at ge56001_0
              rw [hvc_] at ul56001_0
              have HL56001_0 := Aside0.mk (show Kd.V (Kd.int .u8) 5 _ w.heap.size _ _ (rd_L1 l0 x4_1) from Kd.V_mk ul56001_0 ge56001_0)
              clear hva_ hvn_ hvc_ ge56001_0 ul56001_0
              clear hcc56001 hce56001
              have HR56001_0 := Aside0.mk hi56001_0
              have HC56001_0 := Aside0.mk hl56001_0
              clear hi56001_0 hl56001_0
              replace p56001 := eq_true p56001
              replace q56001 := eq_true q56001
              have q10 : (300 : Int) ≤ (((rd_L1 l0 x4_1).length : Int) : Int) := of_decide_eq_true (by first | (with_reducible assumption) | assumption)
              obtain ⟨i010, hi010, _, hsz10, _⟩ := info_parts info5
              have hroom10 : (rd_L1 l0 x4_1).length ≤ c56001_0 := HC56001_0.out
              have hC10 : Kd.F (Kd.int .u8) _ _ A56001_0 (rd_L1 l0 x4_1).length (rd_L1 l0 x4_1) := (Kd.V_at (base := w.heap.size) HL56001_0.out).2.2
              have hcut10 := cut_to (P := Try.prog) 22 5 .i64 Try.underlying22 hi010 A56001_0 (rd_L1 l0 x4_1).length c56001_0 300 (by omega) q10 hroom10
              have hr10 := Kd.F_take (m := 300) hC10 (by omega)
              have hy10 : y56002.length = (300 : Int).toNat := (by rw [Ny56002.out, List.length_take]; omega)
              rw [← Ny56002.out] at hr10
              rw [← hy10] at hcut10
              have HO56006 := Aside0.mk (show Kd.V (Kd.int .u8) 5 _ w.heap.size _ (.slice A56001_0 y56002.length c56001_0) y56002 from Kd.V_mk (by omega) hr10)
              have HC56006 := Aside0.mk (show y56002.length ≤ c56001_0 from by omega)
              clear hr10 hC10 hroom10 hi010 hsz10
              have KY10 := Aside0.mk hy10
              clear hy10
              replace q10 := eq_true q10
              go_wp2_with (first | ((with_reducible refine gate_builtin (b := .append) (xs := #[.tmp 25, .tmp 27]) rfl ?_); at_builtin; refine Kd.N_append (Kd.slice 5 (Kd.int .u8)) (w0 := w) w.heap.size rfl (.tmp 25) (.tmp 27) 34 22 (.slice none 0 0) 24 rfl Try.underlying34 info22 rfl (by decide) (by omega) u3 x3_1 y56002 [.slice A56001_0 y56002.length c56001_0] (fun k_ => (P0_ k_ ∨ w.heap.size ≤ k_)) (fun k_ => ((fun k_ => (P0_ k_ ∨ w.heap.size ≤ k_))) k_ ∧ some k_ ≠ (u3 : Value).ownBlock) rfl rfl ?aP (fun _ hk => hk) ?aF ?aO ?aB ?aS ?aL ?_; (case aP => exact (Kd.FK_slice_mk (Kd.V_reads' (Kd.V_mono (ok' := (fun k_ => ((fun k_ => (P0_ k_ ∨ w.heap.size ≤ k_))) k_ ∧ some k_ ≠ (u3 : Value).ownBlock)) (HO56006.out) (fun k_ hk => ⟨hk.1, hk.2⟩))).2.1 (Kd.V_F (Kd.V_mono (ok' := (fun k_ => ((fun k_ => (P0_ k_ ∨ w.heap.size ≤ k_))) k_ ∧ some k_ ≠ (u3 : Value).ownBlock)) (HO56006.out) (fun k_ hk => ⟨hk.1, hk.2⟩))))); (case aB => exact (below_ext HB.out)); (case aF => exact (fun k_ hk => (.inr (Nat.le_trans (below_size (below_ext HB.out)) hk)))); (case aO => exact (Kd.N_ext HO_3.out)); (case aS => exact (below_size (below_ext HB.out))); (case aL => have := LMc9.out; omega); intro v56008 w11 ho hb hg hat; rw [← Ny56007.out] at ho; have n0_ := Aside0.mk (Kd.V_afterv (ok := (fun k_ => (P0_ k_ ∨ w.heap.size ≤ k_))) (Kd.V_ext HO_0.out) hg hat); have n1_ := Aside0.mk (Kd.V_afterv (ok := (fun k_ => (P0_ k_ ∨ w.heap.size ≤ k_))) (Kd.V_ext HL56001_0.out) hg hat); have n2_ := Aside0.mk (Kd.V_afterv (ok := (fun k_ => (P0_ k_ ∨ w.heap.size ≤ k_))) (Kd.V_ext HO56006.out) hg hat); have n3_ := Aside0.mk (hb); have n4_ := Aside0.mk (ho); clear HO_0; clear HL56001_0; clear HO56006; clear HB; clear HO_3; have HO_0 := n0_; have HL56001_0 := n1_; have HO56006 := n2_; have HB := n3_; have HO56009 := n4_; clear n0_ n1_ n2_ n3_ n4_; clear ho hb hg hat))
              go_roundg kj1
              case measure => have := HK1.out; have := HJ1.out; omega
              case rel => exact ⟨(y56007), (wrap64 (x4_1 + 1)), (by first | rfl | (simp; done) | (simp [*]; done)), H', ⟨by have := HK1.out; have := HJ1.out; omega⟩, ⟨Kd.V_ext HO_0.out⟩, ⟨Kd.N_ext HO56009.out⟩, ⟨below_ext HB.out⟩⟩
            · rw [if_neg c7] at H
              have c7b0 : decide (300 < ((rd_L1 l0 x4_1).length : Int)) = false := decide_eq_false c7
              have c7b1 : decide (300 < (rd_L1 l0 x4_1).length) = false := decide_eq_false (by omega)
              clear c7
              replace H := if_some H; obtain ⟨c12, H⟩ := H
              have LMc12 := Aside0.mk c12
              clear c12
              obtain ⟨y56010, hy56010⟩ : ∃ y_ : List (List Int), y_ = (x3_1 ++ [rd_L1 l0 x4_1]) := ⟨_, rfl⟩
              replace H : (customslaw34_cut.l0 kj1 l0 y56010 (wrap64 (x4_1 + 1))) = some r := by first | (rw [hy56010]; with_reducible exact H) | (have H2_ := (Option.bind_some _ _).symm.trans H; rw [hy56010]; with_reducible exact H2_) | (have H2_ := (Option.bind_some _ _).symm.trans H; with_reducible exact H2_) | with_reducible exact H | (rw [hy56010]; exact H) | exact H
              have Ny56010 := Aside0.mk hy56010
              clear hy56010
              have H' := Aside0.mk H
              clear H
              have p56001 : 0 ≤ (x4_1 : Int) := of_decide_eq_true (by first | (with_reducible assumption) | assumption)
              have q56001 : x4_1 < (l0.length : Int) := of_decide_eq_true (by first | (with_reducible assumption) | assumption)
              obtain ⟨ad56001, A56001_0, c56001_0, e56001, hx56001_0, hl56001_0, hi56001_0⟩ := at_L1 (Kd.V_reads' HO_0.out).2.2 x4_1 p56001 q56001
              cases e56001
              obtain ⟨ce56001, hce56001, hMe56001, hcc56001⟩ := Kd.V_get HO_0.out [] x4_1 p56001 (by first | exact q56001 | exact of_decide_eq_true (by first | (with_reducible assumption) | assumption) | (have e_ := (Kd.V_reads' HO_0.out).1; omega))
              obtain ⟨ua56001_0, uc56001_0, rfl, ul56001_0, ge56001_0⟩ := Kd.FK_slice_open hMe56001
              have hv56001_0 := hcc56001 0 _ rfl
              rw [Nat.add_zero, show ((Kd.slice 5 (Kd.int .u8))).sz = 1 from rfl, Nat.mul_one] at hv56001_0
              replace hv56001_0 := Option.some.inj (hv56001_0.symm.trans hx56001_0)
              injection hv56001_0 with hva_ hvn_ hvc_
              rw [hva_] at ge56001_0
              rw [hvc_] at ul56001_0
              have HL56001_0 := Aside0.mk (show Kd.V (Kd.int .u8) 5 _ w.heap.size _ _ (rd_L1 l0 x4_1) from Kd.V_mk ul56001_0 ge56001_0)
              clear hva_ hvn_ hvc_ ge56001_0 ul56001_0
              clear hcc56001 hce56001
              have HR56001_0 := Aside0.mk hi56001_0
              have HC56001_0 := Aside0.mk hl56001_0
              clear hi56001_0 hl56001_0
              replace p56001 := eq_true p56001
              replace q56001 := eq_true q56001
              go_wp2_with (first | ((with_reducible refine gate_builtin (b := .append) (xs := #[.tmp 25, .tmp 27]) rfl ?_); at_builtin; refine Kd.N_append (Kd.slice 5 (Kd.int .u8)) (w0 := w) w.heap.size rfl (.tmp 25) (.tmp 27) 34 22 (.slice none 0 0) 24 rfl Try.underlying34 info22 rfl (by decide) (by omega) u3 x3_1 (rd_L1 l0 x4_1) [.slice A56001_0 (rd_L1 l0 x4_1).length c56001_0] (fun k_ => (P0_ k_ ∨ w.heap.size ≤ k_)) (fun k_ => ((fun k_ => (P0_ k_ ∨ w.heap.size ≤ k_))) k_ ∧ some k_ ≠ (u3 : Value).ownBlock) rfl rfl ?aP (fun _ hk => hk) ?aF ?aO ?aB ?aS ?aL ?_; (case aP => exact (Kd.FK_slice_mk (Kd.V_reads' (Kd.V_mono (ok' := (fun k_ => ((fun k_ => (P0_ k_ ∨ w.heap.size ≤ k_))) k_ ∧ some k_ ≠ (u3 : Value).ownBlock)) (HL56001_0.out) (fun k_ hk => ⟨hk.1, hk.2⟩))).2.1 (Kd.V_F (Kd.V_mono (ok' := (fun k_ => ((fun k_ => (P0_ k_ ∨ w.heap.size ≤ k_))) k_ ∧ some k_ ≠ (u3 : Value).ownBlock)) (HL56001_0.out) (fun k_ hk => ⟨hk.1, hk.2⟩))))); (case aB => exact (below_ext HB.out)); (case aF => exact (fun k_ hk => (.inr (Nat.le_trans (below_size (below_ext HB.out)) hk)))); (case aO => exact (Kd.N_ext HO_3.out)); (case aS => exact (below_size (below_ext HB.out))); (case aL => have := LMc12.out; omega); intro v56011 w13 ho hb hg hat; rw [← Ny56010.out] at ho; have n0_ := Aside0.mk (Kd.V_afterv (ok := (fun k_ => (P0_ k_ ∨ w.heap.size ≤ k_))) (Kd.V_ext HO_0.out) hg hat); have n1_ := Aside0.mk (Kd.V_afterv (ok := (fun k_ => (P0_ k_ ∨ w.heap.size ≤ k_))) (Kd.V_ext HL56001_0.out) hg hat); have n2_ := Aside0.mk (hb); have n3_ := Aside0.mk (ho); clear HO_0; clear HL56001_0; clear HB; clear HO_3; have HO_0 := n0_; have HL56001_0 := n1_; have HB := n2_; have HO56012 := n3_; clear n0_ n1_ n2_ n3_; clear ho hb hg hat))
              go_roundg kj1
              case measure => have := HK1.out; have := HJ1.out; omega
              case rel => exact ⟨(y56010), (wrap64 (x4_1 + 1)), (by first | rfl | (simp; done) | (simp [*]; done)), H', ⟨by have := HK1.out; have := HJ1.out; omega⟩, ⟨Kd.V_ext HO_0.out⟩, ⟨Kd.N_ext HO56012.out⟩, ⟨below_ext HB.out⟩⟩
          · replace c4 := Bool.eq_false_iff.mpr c4
            subst c4
            have H1 : (some x3_1) = some r := by rw [if_neg (show ¬ (false = true) by decide)] at H; exact H
            clear H
            have H := H1
            clear H1
            obtain rfl := Option.some.inj H
            go_wp2
            go_ret
            exact ⟨_, by first | rfl | (simp [errW_none, errW_some] <;> rfl) | (simp [*, errW_none, errW_some] <;> rfl), Kd.N_ext HO_3.out, below_ext HB.out⟩

end Go.Proofs.Ytfljnggpnndmkaa.Z
