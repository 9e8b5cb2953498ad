/- Printed: a Go function in plain Lean, and that its call does what it says. Conditions: those each theorem states. -/
import Derived.Test.YtoolggpfgadjlaaDoorZ0
import Derived.Test.YtoolggpfgadjlaaDoorZgoodsword
namespace Go.Proofs.YtoolggpfgadjlaaDoor.Z
open Go.RowKit Go.Proofs.YtoolggpfgadjlaaDoorW.PrintWords Go.Proofs.YtoolggpfgadjlaaDoorW.PrintLast Go.Proofs.YtoolggpfgadjlaaDoorW.PrintMore
attribute [local go_sem high] str_leq str_geq str_gtr   -- strings
attribute [local go_sem] max2_int min2_int max_two min_two max_three min_three max_four min_four   -- for this text's walks alone
set_option linter.unusedVariables false
set_option linter.unusedSimpArgs false

/-! ### goods_ValidWords: function 46 -/
def goods_ValidWords.l0 : Nat → List ByteArray → List ByteArray → Int → Int → Option (Bool)
 | 0, _, _, _, _ => none
 | k + 1, x0, x8, x9, x10 => if x10 < x9 then (if 0 ≤ x10 then (if x10 < (x8.length : Int) then ((goods_word.f (rdOf ByteArray.empty x8 x10)).bind fun t46002 => (if t46002 = true then (if x10 > 0 then (if 0 ≤ (wrap64 (x10 - 1)) then (if (wrap64 (x10 - 1)) < (x0.length : Int) then (if ((Op.bytesLess ((rdOf ByteArray.empty x0 (wrap64 (x10 - 1))).toList) ((rdOf ByteArray.empty x8 x10).toList)) = true) then (goods_ValidWords.l0 k x0 x8 x9 (wrap64 (x10 + 1))) else (some false)) else (none)) else (none)) else (goods_ValidWords.l0 k x0 x8 x9 (wrap64 (x10 + 1)))) else (some false))) else (none)) else (none)) else (some true)
def goods_ValidWords.f (k : Nat) (l0 : List ByteArray) : Option (Bool) := if (l0.length : Int) > 8 then (some false) else (goods_ValidWords.l0 k l0 l0 (l0.length : Int) 0)
theorem goods_ValidWords.mono_l : ∀ k, (∀ y0 y1 y2 y3, LeO (goods_ValidWords.l0 k y0 y1 y2 y3) (goods_ValidWords.l0 (k + 1) y0 y1 y2 y3))
 | 0 => fun _ _ _ _ r h => by simp [goods_ValidWords.l0] at h
 | k + 1 => by
  have ih0 := goods_ValidWords.mono_l k
  ·
   intro y0 y1 y2 y3
   unfold goods_ValidWords.l0
   repeat' first
   | (with_reducible exact ih0 _ _ _ _)
   | (with_reducible exact LeO.refl _)
   | (with_reducible exact LeO.none _)
   | (with_reducible refine LeO.ite ?_ ?_)
   | (with_reducible refine LeO.bind ?_ (fun _ => ?_))
   | exact ih0 _ _ _ _
   | exact LeO.none _
   | refine LeO.ite ?_ ?_
   | refine LeO.bind ?_ (fun _ => ?_)
theorem goods_ValidWords.mono : ∀ a0 k, LeO (goods_ValidWords.f k a0) (goods_ValidWords.f (k + 1) a0) := by
 intro a0 k
 have ih0 := goods_ValidWords.mono_l k
 unfold goods_ValidWords.f
 repeat' first
   | (with_reducible exact ih0 _ _ _ _)
   | (with_reducible exact LeO.refl _)
   | (with_reducible exact LeO.none _)
   | (with_reducible refine LeO.ite ?_ ?_)
   | (with_reducible refine LeO.bind ?_ (fun _ => ?_))
   | exact ih0 _ _ _ _
   | exact LeO.none _
   | refine LeO.ite ?_ ?_
   | refine LeO.bind ?_ (fun _ => ?_)
set_option maxHeartbeats 8000000 in
set_option maxRecDepth 100000 in
theorem goods_ValidWords.calls (k : Nat) (A0 : Option Addr) (c0 : Nat) (l0 : List ByteArray) (r : Bool) (w : World) (hr0 : Kd.C Kd.string w A0 l0.length l0) (hc0 : l0.length ≤ c0) (h : goods_ValidWords.f k l0 = some r) :
  Calls Tryd.prog 46 #[.slice A0 l0.length c0] w fun e w' => e = .returned (.bool r) ∧ Below w.heap.size w w' := by
 have HR0 := Aside0.mk hr0
 have HC0 := Aside0.mk hc0
 clear hr0 hc0
 have HB := Aside0.mk (Below.refl w.heap.size w)
 have H : (if (l0.length : Int) > 8 then (some false) else (goods_ValidWords.l0 k l0 l0 (l0.length : Int) 0)) = some r := h
 clear h
 by_cases c2 : (l0.length : Int) > 8
 ·
  rw [if_pos c2] at H
  have c2b0 : decide (8 < (l0.length : Int)) = true := decide_eq_true c2
  have c2b1 : decide (8 < l0.length) = true := decide_eq_true (by omega)
  clear c2
  obtain rfl := Option.some.inj H
  go_enter Tryd.func46, Tryd.ntmps46
  go_wp2
  go_ret
  exact ⟨by first | rfl | (simp [errW_none, errW_some] <;> rfl) | (simp [*, errW_none, errW_some] <;> rfl), below_ext HB.out⟩
 ·
  rw [if_neg c2] at H
  have c2b0 : decide (8 < (l0.length : Int)) = false := decide_eq_false c2
  have c2b1 : decide (8 < l0.length) = false := decide_eq_false (by omega)
  clear c2
  have H' := Aside0.mk H
  clear H
  go_enter Tryd.func46, Tryd.ntmps46
  go_wp2
  go_loopg [10] k (fun kq v10 w' => ∃ (x10_1 : Int), v10 = .int .i64 x10_1 ∧ Aside0 (goods_ValidWords.l0 kq l0 l0 (l0.length : Int) x10_1 = some r) ∧ Aside0 (kq ≤ k) ∧ Aside0 (Below w.heap.size w w'))
  case atStart => exact ⟨(0), rls, H', ⟨Nat.le_refl _⟩, ⟨below_ext HB.out⟩⟩
  case round =>
   clear H'
   try clear c2
   try clear c2b0
   try clear c2b1
   try clear p2
   obtain ⟨x10_1, rfl, HA, HK1, HB⟩ := hrel
   cases gk with
   | zero => exact absurd HA.out (by simp [goods_ValidWords.l0])
   | succ k1 =>
    have H := HA.out
    clear HA
    simp only [goods_ValidWords.l0] at H
    by_cases c3 : x10_1 < (l0.length : Int)
    ·
     rw [if_pos c3] at H
     have c3b0 : decide (x10_1 < (l0.length : Int)) = true := decide_eq_true c3
     clear c3
     replace H := if_some H; obtain ⟨c4, H⟩ := H
     have c4b0 : decide (0 ≤ x10_1) = true := decide_eq_true c4
     clear c4
     replace H := if_some H; obtain ⟨c5, H⟩ := H
     have c5b0 : decide (x10_1 < (l0.length : Int)) = true := decide_eq_true c5
     clear c5
     replace H := Option.bind_eq_some_iff.mp H
     obtain ⟨t46002, A60, H⟩ := H
     try dsimp only at H
     have A6 := Aside0.mk A60
     clear A60
     by_cases c7 : t46002 = true
     ·
      subst c7
      have H1 : (if x10_1 > 0 then (if 0 ≤ (wrap64 (x10_1 - 1)) then (if (wrap64 (x10_1 - 1)) < (l0.length : Int) then (if ((Op.bytesLess ((rdOf ByteArray.empty l0 (wrap64 (x10_1 - 1))).toList) ((rdOf ByteArray.empty l0 x10_1).toList)) = true) then (goods_ValidWords.l0 k1 l0 l0 (l0.length : Int) (wrap64 (x10_1 + 1))) else (some false)) else (none)) else (none)) else (goods_ValidWords.l0 k1 l0 l0 (l0.length : Int) (wrap64 (x10_1 + 1)))) = some r := by rw [if_pos rfl] at H; exact H
      clear H
      have H := H1
      clear H1
      by_cases c8 : x10_1 > 0
      ·
       rw [if_pos c8] at H
       have c8b0 : decide (0 < x10_1) = true := decide_eq_true c8
       clear c8
       obtain ⟨ji9, hji9⟩ : ∃ j_ : Int, (wrap64 (x10_1 - 1)) = j_ := ⟨_, rfl⟩
       replace H : (if 0 ≤ (ji9) then (if (ji9) < (l0.length : Int) then (if ((Op.bytesLess ((rdOf ByteArray.empty l0 (ji9)).toList) ((rdOf ByteArray.empty l0 x10_1).toList)) = true) then (goods_ValidWords.l0 k1 l0 l0 (l0.length : Int) (wrap64 (x10_1 + 1))) else (some false)) else (none)) else (none)) = some r := by first | (rw [hji9] at H; exact H) | (simp only [hji9] at H ⊢; exact H)
       (try rw [hji9] at A6)
       have hji9w : (IntKind.i64.wrap (x10_1 - 1)) = ji9 := (i64_w _).trans hji9
       replace H := if_some H; obtain ⟨c10, H⟩ := H
       have c10b0 : decide (0 ≤ (ji9)) = true := decide_eq_true c10
       clear c10
       replace H := if_some H; obtain ⟨c11, H⟩ := H
       have c11b0 : decide ((ji9) < (l0.length : Int)) = true := decide_eq_true c11
       clear c11
       by_cases c12 : ((Op.bytesLess ((rdOf ByteArray.empty l0 (ji9)).toList) ((rdOf ByteArray.empty l0 x10_1).toList)) = true)
       ·
        rw [if_pos c12] at H
        have c12b0 : (Op.bytesLess ((rdOf ByteArray.empty l0 (ji9)).toList) ((rdOf ByteArray.empty l0 x10_1).toList)) = true := c12
        clear c12
        have H' := Aside0.mk H
        clear H
        have p46001 : 0 ≤ (x10_1 : Int) := odt
        have q46001 : x10_1 < (l0.length : Int) := odt
        obtain ⟨ad46001, e46001, hx46001_0⟩ := Kd.at_string HR0.out x10_1 p46001 q46001
        cases e46001
        (try replace hx46001_0 := (HB.out.cell (World.block_lt_of_cell? w _ hx46001_0)).trans hx46001_0)
        replace p46001 := eq_true p46001
        replace q46001 := eq_true q46001
        go_wp2_with (first | ((with_reducible refine gate_callee (f := 28) rfl ?_); refine goesL_ (some 16) rfl rfl Tryd.func28 (by kernel_rfl) rfl #[.string (rdOf ByteArray.empty l0 x10_1)] rfl goA ?_; (with_reducible refine (goods_word.calls (rdOf ByteArray.empty l0 x10_1) true _ A6.out).mono ?_); rintro e w13 ⟨rfl, hb⟩; refine ⟨_, rfl, ?_⟩; replace HB := mvH HB hb; (try clear hb); (try clear hb2); (try clear hk); (try clear hi); have p46003 : 0 ≤ ((ji9) : Int) := odt; have q46003 : (ji9) < (l0.length : Int) := odt; obtain ⟨ad46003, e46003, hx46003_0⟩ := Kd.at_string HR0.out (ji9) p46003 q46003; obtain rfl : ad46001 = ad46003 := (by injection e46003); replace hx46003_0 := (HB.out.cell (World.block_lt_of_cell? w _ hx46003_0)).trans hx46003_0; replace p46003 := eq_true p46003; replace q46003 := eq_true q46003))
        go_roundg k1
        case measure => have := HK1.out; omega
        case rel => exact ⟨(wrap64 (x10_1 + 1)), rls, H', ⟨by have := HK1.out; omega⟩, ⟨below_ext HB.out⟩⟩
       ·
        rw [if_neg c12] at H
        have c12b0 : (Op.bytesLess ((rdOf ByteArray.empty l0 (ji9)).toList) ((rdOf ByteArray.empty l0 x10_1).toList)) = false := by simpa using c12
        clear c12
        obtain rfl := Option.some.inj H
        have p46001 : 0 ≤ (x10_1 : Int) := odt
        have q46001 : x10_1 < (l0.length : Int) := odt
        obtain ⟨ad46001, e46001, hx46001_0⟩ := Kd.at_string HR0.out x10_1 p46001 q46001
        cases e46001
        (try replace hx46001_0 := (HB.out.cell (World.block_lt_of_cell? w _ hx46001_0)).trans hx46001_0)
        replace p46001 := eq_true p46001
        replace q46001 := eq_true q46001
        go_wp2_with (first | ((with_reducible refine gate_callee (f := 28) rfl ?_); refine goesL_ (some 16) rfl rfl Tryd.func28 (by kernel_rfl) rfl #[.string (rdOf ByteArray.empty l0 x10_1)] rfl goA ?_; (with_reducible refine (goods_word.calls (rdOf ByteArray.empty l0 x10_1) true _ A6.out).mono ?_); rintro e w14 ⟨rfl, hb⟩; refine ⟨_, rfl, ?_⟩; replace HB := mvH HB hb; (try clear hb); (try clear hb2); (try clear hk); (try clear hi); have p46003 : 0 ≤ ((ji9) : Int) := odt; have q46003 : (ji9) < (l0.length : Int) := odt; obtain ⟨ad46003, e46003, hx46003_0⟩ := Kd.at_string HR0.out (ji9) p46003 q46003; obtain rfl : ad46001 = ad46003 := (by injection e46003); replace hx46003_0 := (HB.out.cell (World.block_lt_of_cell? w _ hx46003_0)).trans hx46003_0; replace p46003 := eq_true p46003; replace q46003 := eq_true q46003))
        go_ret
        exact ⟨by first | rfl | (simp [errW_none, errW_some] <;> rfl) | (simp only [← hji9]; first | rfl | (simp [errW_none, errW_some] <;> rfl)) | (simp [*, errW_none, errW_some] <;> rfl), below_ext HB.out⟩
      ·
       rw [if_neg c8] at H
       have c8b0 : decide (0 < x10_1) = false := decide_eq_false c8
       clear c8
       have H' := Aside0.mk H
       clear H
       have p46001 : 0 ≤ (x10_1 : Int) := odt
       have q46001 : x10_1 < (l0.length : Int) := odt
       obtain ⟨ad46001, e46001, hx46001_0⟩ := Kd.at_string HR0.out x10_1 p46001 q46001
       cases e46001
       (try replace hx46001_0 := (HB.out.cell (World.block_lt_of_cell? w _ hx46001_0)).trans hx46001_0)
       replace p46001 := eq_true p46001
       replace q46001 := eq_true q46001
       go_wp2_with (first | ((with_reducible refine gate_callee (f := 28) rfl ?_); refine goesL_ (some 16) rfl rfl Tryd.func28 (by kernel_rfl) rfl #[.string (rdOf ByteArray.empty l0 x10_1)] rfl goA ?_; (with_reducible refine (goods_word.calls (rdOf ByteArray.empty l0 x10_1) true _ A6.out).mono ?_); rintro e w15 ⟨rfl, hb⟩; refine ⟨_, rfl, ?_⟩; replace HB := mvH HB hb; (try clear hb); (try clear hb2); (try clear hk); (try clear hi)))
       go_roundg k1
       case measure => have := HK1.out; omega
       case rel => exact ⟨(wrap64 (x10_1 + 1)), rls, H', ⟨by have := HK1.out; omega⟩, ⟨below_ext HB.out⟩⟩
     ·
      replace c7 := Bool.eq_false_iff.mpr c7
      subst c7
      have H1 : (some false) = some r := by rw [if_neg (show ¬ (false = true) by decide)] at H; exact H
      clear H
      have H := H1
      clear H1
      obtain rfl := Option.some.inj H
      have p46001 : 0 ≤ (x10_1 : Int) := odt
      have q46001 : x10_1 < (l0.length : Int) := odt
      obtain ⟨ad46001, e46001, hx46001_0⟩ := Kd.at_string HR0.out x10_1 p46001 q46001
      cases e46001
      (try replace hx46001_0 := (HB.out.cell (World.block_lt_of_cell? w _ hx46001_0)).trans hx46001_0)
      replace p46001 := eq_true p46001
      replace q46001 := eq_true q46001
      go_wp2_with (first | ((with_reducible refine gate_callee (f := 28) rfl ?_); refine goesL_ (some 16) rfl rfl Tryd.func28 (by kernel_rfl) rfl #[.string (rdOf ByteArray.empty l0 x10_1)] rfl goA ?_; (with_reducible refine (goods_word.calls (rdOf ByteArray.empty l0 x10_1) false _ A6.out).mono ?_); rintro e w16 ⟨rfl, hb⟩; refine ⟨_, rfl, ?_⟩; replace HB := mvH HB hb; (try clear hb); (try clear hb2); (try clear hk); (try clear hi)))
      go_ret
      exact ⟨by first | rfl | (simp [errW_none, errW_some] <;> rfl) | (simp [*, errW_none, errW_some] <;> rfl), below_ext HB.out⟩
    ·
     rw [if_neg c3] at H
     have c3b0 : decide (x10_1 < (l0.length : Int)) = false := decide_eq_false c3
     clear c3
     obtain rfl := Option.some.inj H
     go_wp2
     go_ret
     exact ⟨by first | rfl | (simp [errW_none, errW_some] <;> rfl) | (simp [*, errW_none, errW_some] <;> rfl), below_ext HB.out⟩

end Go.Proofs.YtoolggpfgadjlaaDoor.Z
