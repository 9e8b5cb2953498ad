/- Printed: a Go function in plain Lean, and that its call does what it says. Conditions: those each theorem states. -/
import Derived.Test.YtoolggpfgadjlaaDoorZ0
import Derived.Test.YtoolggpfgadjlaaDoorZcustomsref08Good
import Derived.Test.YtoolggpfgadjlaaDoorZcustomsref08Joined
import Derived.Test.YtoolggpfgadjlaaDoorZcustomsref02Digits
namespace Go.Proofs.YtoolggpfgadjlaaDoor.Z
open Go.RowKit Go.Proofs.YtoolggpfgadjlaaDoorW.PrintWords Go.Proofs.YtoolggpfgadjlaaDoorW.PrintLast Go.Proofs.YtoolggpfgadjlaaDoorW.PrintMore
attribute [local go_sem high] str_leq str_geq str_gtr   -- strings
attribute [local go_sem] max2_int min2_int max_two min_two max_three min_three max_four min_four   -- for this text's walks alone
set_option linter.unusedVariables false
set_option linter.unusedSimpArgs false

/-! ### customsref08_FormatGood: function 15 -/
mutual
def customsref08_FormatGood.l0 : Nat → ByteArray → Int → List ByteArray → List (S36) → List (S38) → Bool → Option (ByteArray)
 | 0, _, _, _, _, _, _ => none
 | k + 1, x3, x4, x15002000, x15002001, x15002002, x15002003 => if x4 < (x15002001.length : Int) then (if 0 ≤ x4 then (if ((rd_T36 x15002001 x4).f0).size + 1 ≤ 9223372036854775807 then ((customsref02_Digits.f k ((rd_T36 x15002001 x4).f1)).bind fun t15006 => (if (((rd_T36 x15002001 x4).f0) ++ (⟨#[58]⟩ : ByteArray)).size + t15006.size ≤ 9223372036854775807 then (if x4 = 0 then (if x3.size + 3 ≤ 9223372036854775807 then (if (x3 ++ (⟨#[32, 109, 58]⟩ : ByteArray)).size + ((((rd_T36 x15002001 x4).f0) ++ (⟨#[58]⟩ : ByteArray)) ++ t15006).size ≤ 9223372036854775807 then (customsref08_FormatGood.l0 k ((x3 ++ (⟨#[32, 109, 58]⟩ : ByteArray)) ++ ((((rd_T36 x15002001 x4).f0) ++ (⟨#[58]⟩ : ByteArray)) ++ t15006)) (wrap64 (x4 + 1)) x15002000 x15002001 x15002002 x15002003) else (none)) else (none)) else (if x3.size + 1 ≤ 9223372036854775807 then (if (x3 ++ (⟨#[44]⟩ : ByteArray)).size + ((((rd_T36 x15002001 x4).f0) ++ (⟨#[58]⟩ : ByteArray)) ++ t15006).size ≤ 9223372036854775807 then (customsref08_FormatGood.l0 k ((x3 ++ (⟨#[44]⟩ : ByteArray)) ++ ((((rd_T36 x15002001 x4).f0) ++ (⟨#[58]⟩ : ByteArray)) ++ t15006)) (wrap64 (x4 + 1)) x15002000 x15002001 x15002002 x15002003) else (none)) else (none))) else (none))) else (none)) else (none)) else (customsref08_FormatGood.l1 k x3 0 x15002000 x15002001 x15002002 x15002003)
def customsref08_FormatGood.l1 : Nat → ByteArray → Int → List ByteArray → List (S36) → List (S38) → Bool → Option (ByteArray)
 | 0, _, _, _, _, _, _ => none
 | k + 1, x3, x6, x15002000, x15002001, x15002002, x15002003 => if x6 < (x15002002.length : Int) then (if 0 ≤ x6 then ((customsref08_Joined.f k ((rd_T38 x15002002 x6).f0) (⟨#[43]⟩ : ByteArray)).bind fun t15008 => (if t15008.size + 1 ≤ 9223372036854775807 then ((customsref02_Digits.f k ((rd_T38 x15002002 x6).f1)).bind fun t15010 => (if (t15008 ++ (⟨#[58]⟩ : ByteArray)).size + t15010.size ≤ 9223372036854775807 then (if x6 = 0 then (if x3.size + 3 ≤ 9223372036854775807 then (if (x3 ++ (⟨#[32, 112, 58]⟩ : ByteArray)).size + ((t15008 ++ (⟨#[58]⟩ : ByteArray)) ++ t15010).size ≤ 9223372036854775807 then (customsref08_FormatGood.l1 k ((x3 ++ (⟨#[32, 112, 58]⟩ : ByteArray)) ++ ((t15008 ++ (⟨#[58]⟩ : ByteArray)) ++ t15010)) (wrap64 (x6 + 1)) x15002000 x15002001 x15002002 x15002003) else (none)) else (none)) else (if x3.size + 1 ≤ 9223372036854775807 then (if (x3 ++ (⟨#[44]⟩ : ByteArray)).size + ((t15008 ++ (⟨#[58]⟩ : ByteArray)) ++ t15010).size ≤ 9223372036854775807 then (customsref08_FormatGood.l1 k ((x3 ++ (⟨#[44]⟩ : ByteArray)) ++ ((t15008 ++ (⟨#[58]⟩ : ByteArray)) ++ t15010)) (wrap64 (x6 + 1)) x15002000 x15002001 x15002002 x15002003) else (none)) else (none))) else (none))) else (none))) else (none)) else (if x15002003 = true then (if x3.size + 11 ≤ 9223372036854775807 then (some (x3 ++ (⟨#[32, 105, 110, 99, 111, 109, 112, 108, 101, 116, 101]⟩ : ByteArray))) else (none)) else (some x3))
end
def customsref08_FormatGood.f (k : Nat) (l0_0 : List ByteArray) (l0_1 : List (S36)) (l0_2 : List (S38)) (a0_3 : Bool) : Option (ByteArray) := (customsref08_Good.f k l0_0 l0_1 l0_2 a0_3).bind fun t15002 => (if t15002 = 0 then ((customsref08_Joined.f k l0_0 (⟨#[43]⟩ : ByteArray)).bind fun t15003 => (customsref08_FormatGood.l0 k t15003 0 l0_0 l0_1 l0_2 a0_3)) else (some (⟨#[]⟩ : ByteArray)))
theorem customsref08_FormatGood.mono_l : ∀ k, (∀ y0 y1 y2 y3 y4 y5, LeO (customsref08_FormatGood.l0 k y0 y1 y2 y3 y4 y5) (customsref08_FormatGood.l0 (k + 1) y0 y1 y2 y3 y4 y5)) ∧ (∀ y0 y1 y2 y3 y4 y5, LeO (customsref08_FormatGood.l1 k y0 y1 y2 y3 y4 y5) (customsref08_FormatGood.l1 (k + 1) y0 y1 y2 y3 y4 y5))
 | 0 => ⟨fun _ _ _ _ _ _ r h => by simp [customsref08_FormatGood.l0] at h, fun _ _ _ _ _ _ r h => by simp [customsref08_FormatGood.l1] at h⟩
 | k + 1 => by
  obtain ⟨ih0, ih1⟩ := customsref08_FormatGood.mono_l k
  refine ⟨?_, ?_⟩ <;> intros
  all_goals first | unfold customsref08_FormatGood.l0 | unfold customsref08_FormatGood.l1
  all_goals repeat' first
   | (with_reducible exact ih0 _ _ _ _ _ _)
   | (with_reducible exact ih1 _ _ _ _ _ _)
   | (with_reducible exact customsref02_Digits.mono _ _)
   | (with_reducible exact customsref08_Good.mono _ _ _ _ _)
   | (with_reducible exact customsref08_Joined.mono _ _ _)
   | (with_reducible exact LeO.refl _)
   | (with_reducible exact LeO.none _)
   | (with_reducible refine LeO.ite ?_ ?_)
   | (with_reducible refine LeO.bind ?_ (fun _ => ?_))
   | exact ih0 _ _ _ _ _ _
   | exact ih1 _ _ _ _ _ _
   | exact customsref02_Digits.mono _ _
   | exact customsref08_Good.mono _ _ _ _ _
   | exact customsref08_Joined.mono _ _ _
   | exact LeO.none _
   | refine LeO.ite ?_ ?_
   | refine LeO.bind ?_ (fun _ => ?_)
theorem customsref08_FormatGood.mono : ∀ a0 a1 a2 a3 k, LeO (customsref08_FormatGood.f k a0 a1 a2 a3) (customsref08_FormatGood.f (k + 1) a0 a1 a2 a3) := by
 intro a0 a1 a2 a3 k
 obtain ⟨ih0, ih1⟩ := customsref08_FormatGood.mono_l k
 unfold customsref08_FormatGood.f
 repeat' first
   | (with_reducible exact ih0 _ _ _ _ _ _)
   | (with_reducible exact ih1 _ _ _ _ _ _)
   | (with_reducible exact customsref02_Digits.mono _ _)
   | (with_reducible exact customsref08_Good.mono _ _ _ _ _)
   | (with_reducible exact customsref08_Joined.mono _ _ _)
   | (with_reducible exact LeO.refl _)
   | (with_reducible exact LeO.none _)
   | (with_reducible refine LeO.ite ?_ ?_)
   | (with_reducible refine LeO.bind ?_ (fun _ => ?_))
   | exact ih0 _ _ _ _ _ _
   | exact ih1 _ _ _ _ _ _
   | exact customsref02_Digits.mono _ _
   | exact customsref08_Good.mono _ _ _ _ _
   | exact customsref08_Joined.mono _ _ _
   | exact LeO.none _
   | refine LeO.ite ?_ ?_
   | refine LeO.bind ?_ (fun _ => ?_)
def customsref08_FormatGood.T7 : Bool × List (List Nat × List Nat) := (true, [([], []), ([0], [0]), ([], []), ([1, 2], [1, 2]), ([3], [3]), ([4], [4]), ([5], [5]), ([], []), ([7], [7]), ([], []), ([8, 9], [8, 9]), ([10], [10]), ([11], [11]), ([12], [12]), ([6, 13], [6, 13]), ([14, 13, 0, 1, 2, 3, 4, 5, 6, 7, 8, 9, 10, 11, 12, 13, 14], [14])])
def customsref08_FormatGood.B7 : List Nat := [0, 1, 0, 7, 15, 31, 63, 0, 128, 0, 896, 1920, 3968, 8064, 16383, 32767]
theorem customsref08_FormatGood.tab7 : rtab .any (opsOf Tryd.f15 7) = customsref08_FormatGood.T7 := by kernel_rfl
theorem customsref08_FormatGood.bits7 : waitsOk customsref08_FormatGood.T7.2 customsref08_FormatGood.B7 = true := by kernel_rfl
def customsref08_FormatGood.T14 : Bool × List (List Nat × List Nat) := (true, [([], []), ([0], [0]), ([], []), ([1, 2], [1, 2]), ([3], [3]), ([4], [4]), ([5], [5]), ([6], [6]), ([], []), ([8], [8]), ([], []), ([9, 10], [9, 10]), ([11], [11]), ([12], [12]), ([13, 6], [13]), ([7, 14], [7, 14]), ([15, 14, 0, 1, 2, 3, 4, 5, 6, 7, 8, 9, 10, 11, 12, 13, 14, 15], [15])])
def customsref08_FormatGood.B14 : List Nat := [0, 1, 0, 7, 15, 31, 63, 127, 0, 256, 0, 1792, 3840, 7936, 16255, 32767, 65535]
theorem customsref08_FormatGood.tab14 : rtab .any (opsOf Tryd.f15 14) = customsref08_FormatGood.T14 := by kernel_rfl
theorem customsref08_FormatGood.bits14 : waitsOk customsref08_FormatGood.T14.2 customsref08_FormatGood.B14 = true := by kernel_rfl
set_option maxHeartbeats 8000000 in
set_option maxRecDepth 100000 in
theorem customsref08_FormatGood.calls (k : Nat) (A0_0 : Option Addr) (c0_0 : Nat) (l0_0 : List ByteArray) (A0_1 : Option Addr) (c0_1 : Nat) (l0_1 : List (S36)) (A0_2 : Option Addr) (c0_2 : Nat) (l0_2 : List (S38)) (a0_3 : Bool) (r : ByteArray) (w : World) (hr0_0 : Kd.C Kd.string w A0_0 l0_0.length l0_0) (hc0_0 : l0_0.length ≤ c0_0) (hr0_1 : Kd.C k36 w A0_1 l0_1.length l0_1) (hc0_1 : l0_1.length ≤ c0_1) (hr0_2 : Kd.C k38 w A0_2 l0_2.length l0_2) (hc0_2 : l0_2.length ≤ c0_2) (h : customsref08_FormatGood.f k l0_0 l0_1 l0_2 a0_3 = some r) :
  Calls Tryd.prog 15 #[.agg #[.slice A0_0 l0_0.length c0_0, .slice A0_1 l0_1.length c0_1, .slice A0_2 l0_2.length c0_2, .bool a0_3]] w fun e w' => e = .returned (.string r) ∧ Below w.heap.size w w' := by
 have hu26 := Tryd.underlying26
 have HR0_0 := Aside0.mk hr0_0
 have HC0_0 := Aside0.mk hc0_0
 clear hr0_0 hc0_0
 have HR0_1 := Aside0.mk hr0_1
 have HC0_1 := Aside0.mk hc0_1
 clear hr0_1 hc0_1
 have HR0_2 := Aside0.mk hr0_2
 have HC0_2 := Aside0.mk hc0_2
 clear hr0_2 hc0_2
 have HB := Aside0.mk (Below.refl w.heap.size w)
 have H : ((customsref08_Good.f k l0_0 l0_1 l0_2 a0_3).bind fun t15002 => (if t15002 = 0 then ((customsref08_Joined.f k l0_0 (⟨#[43]⟩ : ByteArray)).bind fun t15003 => (customsref08_FormatGood.l0 k t15003 0 l0_0 l0_1 l0_2 a0_3)) else (some (⟨#[]⟩ : ByteArray)))) = some r := h
 clear h
 replace H := Option.bind_eq_some_iff.mp H
 obtain ⟨t15002, A20, H⟩ := H
 try dsimp only at H
 have A2 := Aside0.mk A20
 clear A20
 by_cases c3 : t15002 = 0
 ·
  rw [if_pos c3] at H
  have c3b0 : (t15002 == 0) = true := beq_iff_eq.mpr c3
  have c3b1 : (t15002 != 0) = false := bne_eq_false_iff_eq.mpr c3
  clear c3
  replace H := Option.bind_eq_some_iff.mp H
  obtain ⟨t15003, A40, H⟩ := H
  try dsimp only at H
  have A4 := Aside0.mk A40
  clear A40
  have H' := Aside0.mk H
  clear H
  go_enter Tryd.func15, Tryd.ntmps15
  go_wp2_with (first | ((with_reducible refine gate_dst (N := 1) rfl ?_); refine box_event ?hg (N := 1) ?hd (cs := #[.slice A0_0 l0_0.length c0_0, .slice A0_1 l0_1.length c0_1, .slice A0_2 l0_2.length c0_2, .bool a0_3]) (t := 26) ?hr ?_; (case hd => rfl); (case hg => rfl); (case hr => exact goR); intro gb15001 hg w5 hbox hb; have BK15001 := Aside0.mk (hbox); have GW15001 := gwE hg HB; have GE15001 := GW15001; have GI15001 := GE_.mk GE15001.out; replace HB := mvH HB hb; clear hb hbox hg; obtain ⟨hcz6_0, hcz6_1, hcz6_2, hcz6_3, hfz6_0, hfz6_1, hfz6_2, hfz6_3⟩ := bk4 BK15001.out) | ((with_reducible refine gate_callee (f := 11) rfl ?_); refine goesL_ (some 9) rfl rfl Tryd.func11 (by kernel_rfl) rfl #[.agg #[.slice A0_0 l0_0.length c0_0, .slice A0_1 l0_1.length c0_1, .slice A0_2 l0_2.length c0_2, .bool a0_3]] rfl goA ?_; (with_reducible refine (customsref08_Good.calls k _ _ l0_0 _ _ l0_1 _ _ l0_2 a0_3 t15002 _ ?side1 ?side2 ?side3 ?side4 ?side5 ?side6 A2.out).mono ?_); (case side1 => repeat (first | exact (Kd.C_below HR0_0.out HB.out) | (with_reducible refine Kd.C_alloc ?_ _) | (with_reducible refine Kd.C_drewN ?_ _) | (with_reducible refine Kd.C_drew ?_))); (case side2 => exact HC0_0.out); (case side3 => repeat (first | exact (Kd.C_below HR0_1.out HB.out) | (with_reducible refine Kd.C_alloc ?_ _) | (with_reducible refine Kd.C_drewN ?_ _) | (with_reducible refine Kd.C_drew ?_))); (case side4 => exact HC0_1.out); (case side5 => repeat (first | exact (Kd.C_below HR0_2.out HB.out) | (with_reducible refine Kd.C_alloc ?_ _) | (with_reducible refine Kd.C_drewN ?_ _) | (with_reducible refine Kd.C_drew ?_))); (case side6 => exact HC0_2.out); rintro e w7 ⟨rfl, hb⟩; refine ⟨_, rfl, ?_⟩; replace BK15001 := mvB BK15001 hb; replace HB := mvH HB hb; (try clear hb); (try clear hb2); (try clear hk); (try clear hi); obtain ⟨hcz8_0, hcz8_1, hcz8_2, hcz8_3, hfz8_0, hfz8_1, hfz8_2, hfz8_3⟩ := bk4 BK15001.out) | ((with_reducible refine gate_callee (f := 34) rfl ?_); refine goesL_ (some 13) rfl rfl Tryd.func34 (by kernel_rfl) rfl #[.slice A0_0 l0_0.length c0_0, .string (⟨#[43]⟩ : ByteArray)] rfl goA ?_; (with_reducible refine (customsref08_Joined.calls k _ _ l0_0 (⟨#[43]⟩ : ByteArray) t15003 _ ?side1 ?side2 A4.out).mono ?_); (case side1 => repeat (first | exact (Kd.C_below HR0_0.out HB.out) | (with_reducible refine Kd.C_alloc ?_ _) | (with_reducible refine Kd.C_drewN ?_ _) | (with_reducible refine Kd.C_drew ?_))); (case side2 => exact HC0_0.out); rintro e w' ⟨rfl, ⟨nd, rfl⟩⟩; refine ⟨_, rfl, ?_⟩))
  go_loopg [3, 4] k (fun kq v3 v4 w' => ∃ (x3_1 : ByteArray) (x4_1 : Int), v3 = .string x3_1 ∧ v4 = .int .i64 x4_1 ∧ Aside0 (customsref08_FormatGood.l0 kq x3_1 x4_1 l0_0 l0_1 l0_2 a0_3 = some r) ∧ Aside0 (kq ≤ k) ∧ Aside0 (w'.heap[gb15001]? = some (.cells #[(.slice A0_0 l0_0.length c0_0), (.slice A0_1 l0_1.length c0_1), (.slice A0_2 l0_2.length c0_2), .bool a0_3] 26 (0, 0))) ∧ Aside0 (Below w.heap.size w w'))
  case atStart => exact ⟨(t15003), (0), rls, rls, H', ⟨Nat.le_refl _⟩, ⟨blk_ext BK15001.out⟩, ⟨below_extB HB.out⟩⟩
  case round =>
   clear H'
   try clear c1
   try clear p2
   try clear c3
   try clear c3b0
   try clear c3b1
   try clear hcz6_0 hcz6_1 hcz6_2 hcz6_3
   try clear hcz8_0 hcz8_1 hcz8_2 hcz8_3
   try clear hfz6_0 hfz6_1 hfz6_2 hfz6_3
   try clear hfz8_0 hfz8_1 hfz8_2 hfz8_3
   obtain ⟨x3_1, x4_1, rfl, rfl, HA, HK1, BK15001, HB⟩ := hrel
   cases gk with
   | zero => exact absurd HA.out (by simp [customsref08_FormatGood.l0])
   | succ k1 =>
    have H := HA.out
    clear HA
    simp only [customsref08_FormatGood.l0] at H
    by_cases c9 : x4_1 < (l0_1.length : Int)
    ·
     rw [if_pos c9] at H
     have c9b0 : decide (x4_1 < (l0_1.length : Int)) = true := decide_eq_true c9
     clear c9
     replace H := if_some H; obtain ⟨c10, H⟩ := H
     have c10b0 : decide (0 ≤ x4_1) = true := decide_eq_true c10
     clear c10
     replace H := if_some H; obtain ⟨c11, H⟩ := H
     have c11b0 := eq_true c11
     have c11b1 : decide (((rd_T36 l0_1 x4_1).f0).size + 1 ≤ 9223372036854775807) = true := decide_eq_true c11
     try have c11b2 : (9223372036854775807 < ((rd_T36 l0_1 x4_1).f0).size + 1) = False := eq_false (Nat.not_lt.2 c11)
     replace H := Option.bind_eq_some_iff.mp H
     obtain ⟨t15006, A120, H⟩ := H
     try dsimp only at H
     have A12 := Aside0.mk A120
     clear A120
     replace H := if_some H; obtain ⟨c13, H⟩ := H
     have c13b0 := eq_true c13
     have c13b1 : decide ((((rd_T36 l0_1 x4_1).f0) ++ (⟨#[58]⟩ : ByteArray)).size + t15006.size ≤ 9223372036854775807) = true := decide_eq_true c13
     try have c13b2 : (9223372036854775807 < (((rd_T36 l0_1 x4_1).f0) ++ (⟨#[58]⟩ : ByteArray)).size + t15006.size) = False := eq_false (Nat.not_lt.2 c13)
     (try (have c13b3 := c13b2; simp only [ByteArray.size_append, show ∀ b : UInt8, (⟨#[b]⟩ : ByteArray).size = 1 from fun _ => rfl] at c13b3))
     (try (have c13b4 := c13b2; simp only [ByteArray.size_append, show ∀ b : UInt8, (⟨#[b]⟩ : ByteArray).size = 1 from fun _ => rfl, show ∀ b c d : UInt8, (⟨#[b, c, d]⟩ : ByteArray).size = 3 from fun _ _ _ => rfl] at c13b4))
     by_cases c14 : x4_1 = 0
     ·
      rw [if_pos c14] at H
      have c14b0 : (x4_1 == 0) = true := beq_iff_eq.mpr c14
      have c14b1 : (x4_1 != 0) = false := bne_eq_false_iff_eq.mpr c14
      clear c14
      replace H := if_some H; obtain ⟨c15, H⟩ := H
      have c15b0 := eq_true c15
      have c15b1 : decide (x3_1.size + 3 ≤ 9223372036854775807) = true := decide_eq_true c15
      try have c15b2 : (9223372036854775807 < x3_1.size + 3) = False := eq_false (Nat.not_lt.2 c15)
      replace H := if_some H; obtain ⟨c16, H⟩ := H
      have c16b0 := eq_true c16
      have c16b1 : decide ((x3_1 ++ (⟨#[32, 109, 58]⟩ : ByteArray)).size + ((((rd_T36 l0_1 x4_1).f0) ++ (⟨#[58]⟩ : ByteArray)) ++ t15006).size ≤ 9223372036854775807) = true := decide_eq_true c16
      try have c16b2 : (9223372036854775807 < (x3_1 ++ (⟨#[32, 109, 58]⟩ : ByteArray)).size + ((((rd_T36 l0_1 x4_1).f0) ++ (⟨#[58]⟩ : ByteArray)) ++ t15006).size) = False := eq_false (Nat.not_lt.2 c16)
      (try (have c16b3 := c16b2; simp only [ByteArray.size_append, show ∀ b : UInt8, (⟨#[b]⟩ : ByteArray).size = 1 from fun _ => rfl] at c16b3))
      (try (have c16b4 := c16b2; simp only [ByteArray.size_append, show ∀ b : UInt8, (⟨#[b]⟩ : ByteArray).size = 1 from fun _ => rfl, show ∀ b c d : UInt8, (⟨#[b, c, d]⟩ : ByteArray).size = 3 from fun _ _ _ => rfl] at c16b4))
      have H' := Aside0.mk H
      clear H
      obtain ⟨hcz17_0, hcz17_1, hcz17_2, hcz17_3, hfz17_0, hfz17_1, hfz17_2, hfz17_3⟩ := bk4 BK15001.out
      try go_wp2
      replace BK15001 := Aside0.mk (blk_drew BK15001.out)
      replace HB := Aside0.mk (below_drew1 HB.out)
      have p15004 : 0 ≤ (x4_1 : Int) := odt
      have q15004 : x4_1 < (l0_1.length : Int) := odt
      obtain ⟨ad15004, e15004, hx15004_0, hx15004_1⟩ := at_T36 HR0_1.out x4_1 p15004 q15004
      have hw15004_1 := hx15004_1
      have hw15004_0 := hx15004_0
      cases e15004
      (try replace hx15004_0 := (HB.out.cell (World.block_lt_of_cell? w _ hx15004_0)).trans hx15004_0)
      (try replace hx15004_1 := (HB.out.cell (World.block_lt_of_cell? w _ hx15004_1)).trans hx15004_1)
      replace p15004 := eq_true p15004
      replace q15004 := eq_true q15004
      have p15005 : 0 ≤ (x4_1 : Int) := odt
      have q15005 : x4_1 < (l0_1.length : Int) := odt
      obtain ⟨ad15005, e15005, hx15005_0, hx15005_1⟩ := at_T36 HR0_1.out x4_1 p15005 q15005
      have hw15005_1 := hx15005_1
      have hw15005_0 := hx15005_0
      obtain rfl : ad15004 = ad15005 := (by injection e15005)
      (try replace hx15005_0 := (HB.out.cell (World.block_lt_of_cell? w _ hx15005_0)).trans hx15005_0)
      (try replace hx15005_1 := (HB.out.cell (World.block_lt_of_cell? w _ hx15005_1)).trans hx15005_1)
      replace p15005 := eq_true p15005
      replace q15005 := eq_true q15005
      refine start_ (n := 16) (S := fun w' => w'.cell? ⟨gb15001, 0, none⟩ = some (.slice A0_0 l0_0.length c0_0) ∧ w'.cell? ⟨gb15001, 1, none⟩ = some (.slice (some ad15004) l0_1.length c0_1) ∧ w'.cell? ⟨gb15001, 2, none⟩ = some (.slice A0_2 l0_2.length c0_2) ∧ w'.cell? ⟨gb15001, 3, none⟩ = some (.bool a0_3) ∧ w'.cell? (ad15004.add ((x4_1).toNat * 2)) = some (.string ((rd_T36 l0_1 x4_1).f0)) ∧ w'.cell? ⟨(ad15004.add ((x4_1).toNat * 2)).block, (ad15004.add ((x4_1).toNat * 2)).off + 1, none⟩ = some (.int .i64 ((rd_T36 l0_1 x4_1).f1)) ∧ w'.cell? (ad15004.add ((x4_1).toNat * 2)) = some (.string ((rd_T36 l0_1 x4_1).f0)) ∧ w'.cell? ⟨(ad15004.add ((x4_1).toNat * 2)).block, (ad15004.add ((x4_1).toNat * 2)).off + 1, none⟩ = some (.int .i64 ((rd_T36 l0_1 x4_1).f1))) (ds := []) #[false, false, false, false, false, false, false, false, false, false, false, false, false, false, false, false] (by kernel_rfl) rfl rfl ⟨bc BK15001 0, bc BK15001 1, bc BK15001 2, bc BK15001 3, (by first | exact (HB.out.cell (World.block_lt_of_cell? w _ hw15004_0)).trans hw15004_0 | exact hw15004_0), (by first | exact (HB.out.cell (World.block_lt_of_cell? w _ hw15004_1)).trans hw15004_1 | exact hw15004_1), (by first | exact (HB.out.cell (World.block_lt_of_cell? w _ hw15005_0)).trans hw15005_0 | exact hw15005_0), (by first | exact (HB.out.cell (World.block_lt_of_cell? w _ hw15005_1)).trans hw15005_1 | exact hw15005_1)⟩ (fun hHeld => ?_); refine with_tabW customsref08_FormatGood.tab7 customsref08_FormatGood.bits7 (fun HT_ HW_ => ?_)
      generalize wr.drew = w18 at BK15001 HB hx15004_0 hx15004_1 hx15005_0 hx15005_1 hHeld ⊢
      refine purE 0 (some 21) HT_ ?_
      refine purE 2 (some 23) HT_ ?_
      refine purE 7 (some 28) HT_ ?_
      refine purE 9 (some 30) HT_ ?_
      refine tkE 1 (some 22) HT_ HW_ hHeld ?_ (hy := by rintro w' ⟨s0, s1, s2, s3, s4, s5, s6, s7⟩; go_simp; with_reducible rfl)
      refine purE 3 (some 24) HT_ ?_
      refine purE 4 (some 25) HT_ ?_
      refine tkE 5 (some 26) HT_ HW_ hHeld ?_ (hy := by rintro w' ⟨s0, s1, s2, s3, s4, s5, s6, s7⟩; go_simp; with_reducible rfl)
      refine purE 6 (some 27) HT_ ?_
      refine tkE 8 (some 29) HT_ HW_ hHeld ?_ (hy := by rintro w' ⟨s0, s1, s2, s3, s4, s5, s6, s7⟩; go_simp; with_reducible rfl)
      refine purE 10 (some 31) HT_ ?_
      refine purE 11 (some 32) HT_ ?_
      refine tkE 12 (some 33) HT_ HW_ hHeld ?_ (hy := by rintro w' ⟨s0, s1, s2, s3, s4, s5, s6, s7⟩; go_simp; with_reducible rfl)
      refine oneE 13 (some 34) HT_ (fun K hK => ?_)
      refine goes_ Tryd.func35 (by kernel_rfl) rfl #[.int .i64 ((rd_T36 l0_1 x4_1).f1)] (by rfl) rfl rfl goB ?_
      with_reducible refine (customsref02_Digits.calls k1 ((rd_T36 l0_1 x4_1).f1) t15006 _ A12.out).mono ?_
      rintro e w19 ⟨rfl, hb⟩
      refine ⟨_, rfl, ?_⟩
      replace BK15001 := mvB BK15001 hb
      replace HB := mvH HB hb
      (try clear hb)
      (try clear hb2)
      (try clear hk)
      (try clear hi)
      refine hK.out _ _ ⟨bc BK15001 0, bc BK15001 1, bc BK15001 2, bc BK15001 3, (by first | exact (HB.out.cell (World.block_lt_of_cell? w _ hw15004_0)).trans hw15004_0 | exact hw15004_0), (by first | exact (HB.out.cell (World.block_lt_of_cell? w _ hw15004_1)).trans hw15004_1 | exact hw15004_1), (by first | exact (HB.out.cell (World.block_lt_of_cell? w _ hw15005_0)).trans hw15005_0 | exact hw15005_0), (by first | exact (HB.out.cell (World.block_lt_of_cell? w _ hw15005_1)).trans hw15005_1 | exact hw15005_1)⟩ (fun hHeld => ?_)
      clear hK K
      refine nrmE (some 34) ?_
      refine purE 14 (some 35) HT_ ?_
      refine purE 15 (some 5) HT_ ?_
      refine done_ (done_of HT_.out (by kernel_rfl)) ?_
      try go_wp2
      go_roundg k1
      case measure => have := HK1.out; omega
      case rel => exact ⟨((x3_1 ++ (⟨#[32, 109, 58]⟩ : ByteArray)) ++ ((((rd_T36 l0_1 x4_1).f0) ++ (⟨#[58]⟩ : ByteArray)) ++ t15006)), (wrap64 (x4_1 + 1)), rls, rls, H', ⟨by have := HK1.out; omega⟩, ⟨blk_ext BK15001.out⟩, ⟨below_extB HB.out⟩⟩
     ·
      rw [if_neg c14] at H
      have c14b0 : (x4_1 == 0) = false := beq_eq_false_iff_ne.mpr c14
      have c14b1 : (x4_1 != 0) = true := bne_iff_ne.mpr c14
      replace H := if_some H; obtain ⟨c20, H⟩ := H
      have c20b0 := eq_true c20
      have c20b1 : decide (x3_1.size + 1 ≤ 9223372036854775807) = true := decide_eq_true c20
      try have c20b2 : (9223372036854775807 < x3_1.size + 1) = False := eq_false (Nat.not_lt.2 c20)
      replace H := if_some H; obtain ⟨c21, H⟩ := H
      have c21b0 := eq_true c21
      have c21b1 : decide ((x3_1 ++ (⟨#[44]⟩ : ByteArray)).size + ((((rd_T36 l0_1 x4_1).f0) ++ (⟨#[58]⟩ : ByteArray)) ++ t15006).size ≤ 9223372036854775807) = true := decide_eq_true c21
      try have c21b2 : (9223372036854775807 < (x3_1 ++ (⟨#[44]⟩ : ByteArray)).size + ((((rd_T36 l0_1 x4_1).f0) ++ (⟨#[58]⟩ : ByteArray)) ++ t15006).size) = False := eq_false (Nat.not_lt.2 c21)
      (try (have c21b3 := c21b2; simp only [ByteArray.size_append, show ∀ b : UInt8, (⟨#[b]⟩ : ByteArray).size = 1 from fun _ => rfl] at c21b3))
      (try (have c21b4 := c21b2; simp only [ByteArray.size_append, show ∀ b : UInt8, (⟨#[b]⟩ : ByteArray).size = 1 from fun _ => rfl, show ∀ b c d : UInt8, (⟨#[b, c, d]⟩ : ByteArray).size = 3 from fun _ _ _ => rfl] at c21b4))
      have H' := Aside0.mk H
      clear H
      obtain ⟨hcz22_0, hcz22_1, hcz22_2, hcz22_3, hfz22_0, hfz22_1, hfz22_2, hfz22_3⟩ := bk4 BK15001.out
      try go_wp2
      replace BK15001 := Aside0.mk (blk_drew BK15001.out)
      replace HB := Aside0.mk (below_drew1 HB.out)
      have p15004 : 0 ≤ (x4_1 : Int) := odt
      have q15004 : x4_1 < (l0_1.length : Int) := odt
      obtain ⟨ad15004, e15004, hx15004_0, hx15004_1⟩ := at_T36 HR0_1.out x4_1 p15004 q15004
      have hw15004_1 := hx15004_1
      have hw15004_0 := hx15004_0
      cases e15004
      (try replace hx15004_0 := (HB.out.cell (World.block_lt_of_cell? w _ hx15004_0)).trans hx15004_0)
      (try replace hx15004_1 := (HB.out.cell (World.block_lt_of_cell? w _ hx15004_1)).trans hx15004_1)
      replace p15004 := eq_true p15004
      replace q15004 := eq_true q15004
      have p15005 : 0 ≤ (x4_1 : Int) := odt
      have q15005 : x4_1 < (l0_1.length : Int) := odt
      obtain ⟨ad15005, e15005, hx15005_0, hx15005_1⟩ := at_T36 HR0_1.out x4_1 p15005 q15005
      have hw15005_1 := hx15005_1
      have hw15005_0 := hx15005_0
      obtain rfl : ad15004 = ad15005 := (by injection e15005)
      (try replace hx15005_0 := (HB.out.cell (World.block_lt_of_cell? w _ hx15005_0)).trans hx15005_0)
      (try replace hx15005_1 := (HB.out.cell (World.block_lt_of_cell? w _ hx15005_1)).trans hx15005_1)
      replace p15005 := eq_true p15005
      replace q15005 := eq_true q15005
      refine start_ (n := 16) (S := fun w' => w'.cell? ⟨gb15001, 0, none⟩ = some (.slice A0_0 l0_0.length c0_0) ∧ w'.cell? ⟨gb15001, 1, none⟩ = some (.slice (some ad15004) l0_1.length c0_1) ∧ w'.cell? ⟨gb15001, 2, none⟩ = some (.slice A0_2 l0_2.length c0_2) ∧ w'.cell? ⟨gb15001, 3, none⟩ = some (.bool a0_3) ∧ w'.cell? (ad15004.add ((x4_1).toNat * 2)) = some (.string ((rd_T36 l0_1 x4_1).f0)) ∧ w'.cell? ⟨(ad15004.add ((x4_1).toNat * 2)).block, (ad15004.add ((x4_1).toNat * 2)).off + 1, none⟩ = some (.int .i64 ((rd_T36 l0_1 x4_1).f1)) ∧ w'.cell? (ad15004.add ((x4_1).toNat * 2)) = some (.string ((rd_T36 l0_1 x4_1).f0)) ∧ w'.cell? ⟨(ad15004.add ((x4_1).toNat * 2)).block, (ad15004.add ((x4_1).toNat * 2)).off + 1, none⟩ = some (.int .i64 ((rd_T36 l0_1 x4_1).f1))) (ds := []) #[false, false, false, false, false, false, false, false, false, false, false, false, false, false, false, false] (by kernel_rfl) rfl rfl ⟨bc BK15001 0, bc BK15001 1, bc BK15001 2, bc BK15001 3, (by first | exact (HB.out.cell (World.block_lt_of_cell? w _ hw15004_0)).trans hw15004_0 | exact hw15004_0), (by first | exact (HB.out.cell (World.block_lt_of_cell? w _ hw15004_1)).trans hw15004_1 | exact hw15004_1), (by first | exact (HB.out.cell (World.block_lt_of_cell? w _ hw15005_0)).trans hw15005_0 | exact hw15005_0), (by first | exact (HB.out.cell (World.block_lt_of_cell? w _ hw15005_1)).trans hw15005_1 | exact hw15005_1)⟩ (fun hHeld => ?_); refine with_tabW customsref08_FormatGood.tab7 customsref08_FormatGood.bits7 (fun HT_ HW_ => ?_)
      generalize wr.drew = w23 at BK15001 HB hx15004_0 hx15004_1 hx15005_0 hx15005_1 hHeld ⊢
      refine purE 0 (some 21) HT_ ?_
      refine purE 2 (some 23) HT_ ?_
      refine purE 7 (some 28) HT_ ?_
      refine purE 9 (some 30) HT_ ?_
      refine tkE 1 (some 22) HT_ HW_ hHeld ?_ (hy := by rintro w' ⟨s0, s1, s2, s3, s4, s5, s6, s7⟩; go_simp; with_reducible rfl)
      refine purE 3 (some 24) HT_ ?_
      refine purE 4 (some 25) HT_ ?_
      refine tkE 5 (some 26) HT_ HW_ hHeld ?_ (hy := by rintro w' ⟨s0, s1, s2, s3, s4, s5, s6, s7⟩; go_simp; with_reducible rfl)
      refine purE 6 (some 27) HT_ ?_
      refine tkE 8 (some 29) HT_ HW_ hHeld ?_ (hy := by rintro w' ⟨s0, s1, s2, s3, s4, s5, s6, s7⟩; go_simp; with_reducible rfl)
      refine purE 10 (some 31) HT_ ?_
      refine purE 11 (some 32) HT_ ?_
      refine tkE 12 (some 33) HT_ HW_ hHeld ?_ (hy := by rintro w' ⟨s0, s1, s2, s3, s4, s5, s6, s7⟩; go_simp; with_reducible rfl)
      refine oneE 13 (some 34) HT_ (fun K hK => ?_)
      refine goes_ Tryd.func35 (by kernel_rfl) rfl #[.int .i64 ((rd_T36 l0_1 x4_1).f1)] (by rfl) rfl rfl goB ?_
      with_reducible refine (customsref02_Digits.calls k1 ((rd_T36 l0_1 x4_1).f1) t15006 _ A12.out).mono ?_
      rintro e w24 ⟨rfl, hb⟩
      refine ⟨_, rfl, ?_⟩
      replace BK15001 := mvB BK15001 hb
      replace HB := mvH HB hb
      (try clear hb)
      (try clear hb2)
      (try clear hk)
      (try clear hi)
      refine hK.out _ _ ⟨bc BK15001 0, bc BK15001 1, bc BK15001 2, bc BK15001 3, (by first | exact (HB.out.cell (World.block_lt_of_cell? w _ hw15004_0)).trans hw15004_0 | exact hw15004_0), (by first | exact (HB.out.cell (World.block_lt_of_cell? w _ hw15004_1)).trans hw15004_1 | exact hw15004_1), (by first | exact (HB.out.cell (World.block_lt_of_cell? w _ hw15005_0)).trans hw15005_0 | exact hw15005_0), (by first | exact (HB.out.cell (World.block_lt_of_cell? w _ hw15005_1)).trans hw15005_1 | exact hw15005_1)⟩ (fun hHeld => ?_)
      clear hK K
      refine nrmE (some 34) ?_
      refine purE 14 (some 35) HT_ ?_
      refine purE 15 (some 5) HT_ ?_
      refine done_ (done_of HT_.out (by kernel_rfl)) ?_
      try go_wp2
      go_roundg k1
      case measure => have := HK1.out; omega
      case rel => exact ⟨((x3_1 ++ (⟨#[44]⟩ : ByteArray)) ++ ((((rd_T36 l0_1 x4_1).f0) ++ (⟨#[58]⟩ : ByteArray)) ++ t15006)), (wrap64 (x4_1 + 1)), rls, rls, H', ⟨by have := HK1.out; omega⟩, ⟨blk_ext BK15001.out⟩, ⟨below_extB HB.out⟩⟩
    ·
     rw [if_neg c9] at H
     have c9b0 : decide (x4_1 < (l0_1.length : Int)) = false := decide_eq_false c9
     clear c9
     have H' := Aside0.mk H
     clear H
     obtain ⟨hcz25_0, hcz25_1, hcz25_2, hcz25_3, hfz25_0, hfz25_1, hfz25_2, hfz25_3⟩ := bk4 BK15001.out
     go_wp2
     go_loopg [3, 6] k1 (fun kq v3 v6 w' => ∃ (x3_2 : ByteArray) (x6_2 : Int), v3 = .string x3_2 ∧ v6 = .int .i64 x6_2 ∧ Aside0 (customsref08_FormatGood.l1 kq x3_2 x6_2 l0_0 l0_1 l0_2 a0_3 = some r) ∧ Aside0 (kq ≤ k1) ∧ Aside0 (w'.heap[gb15001]? = some (.cells #[(.slice A0_0 l0_0.length c0_0), (.slice A0_1 l0_1.length c0_1), (.slice A0_2 l0_2.length c0_2), .bool a0_3] 26 (0, 0))) ∧ Aside0 (Below w.heap.size w w'))
     case atStart => exact ⟨(x3_1), (0), rls, rls, H', ⟨Nat.le_refl _⟩, ⟨blk_ext BK15001.out⟩, ⟨below_extB HB.out⟩⟩
     case round =>
      clear H'
      try clear c1
      try clear p1
      try clear q1
      try clear hx1
      try clear c2
      try clear p2
      try clear c3
      try clear c3b0
      try clear c3b1
      try clear p6
      try clear c9
      try clear c9b0
      try clear c10
      try clear c10b0
      try clear c11
      try clear c11b0
      try clear c11b1
      try clear c11b2
      try clear c13
      try clear c13b0
      try clear c13b1
      try clear c13b2
      try clear c14
      try clear c14b0
      try clear c14b1
      try clear c15
      try clear c15b0
      try clear c15b1
      try clear c15b2
      try clear p15
      try clear q15
      try clear hx15
      try clear c16
      try clear c16b0
      try clear c16b1
      try clear c16b2
      try clear c20
      try clear c20b0
      try clear c20b1
      try clear c20b2
      try clear c21
      try clear c21b0
      try clear c21b1
      try clear c21b2
      try clear hcz17_0 hcz17_1 hcz17_2 hcz17_3
      try clear hcz22_0 hcz22_1 hcz22_2 hcz22_3
      try clear hcz25_0 hcz25_1 hcz25_2 hcz25_3
      try clear hcz6_0 hcz6_1 hcz6_2 hcz6_3
      try clear hcz8_0 hcz8_1 hcz8_2 hcz8_3
      try clear hfz17_0 hfz17_1 hfz17_2 hfz17_3
      try clear hfz22_0 hfz22_1 hfz22_2 hfz22_3
      try clear hfz25_0 hfz25_1 hfz25_2 hfz25_3
      try clear hfz6_0 hfz6_1 hfz6_2 hfz6_3
      try clear hfz8_0 hfz8_1 hfz8_2 hfz8_3
      try clear hx15004_0
      try clear hx15004_1
      try clear hx15005_0
      try clear hx15005_1
      try clear p15004
      try clear p15005
      try clear p2
      try clear q15004
      try clear q15005
      obtain ⟨x3_2, x6_2, rfl, rfl, HA, HK2, BK15001, HB⟩ := hrel
      cases gk with
      | zero => exact absurd HA.out (by simp [customsref08_FormatGood.l1])
      | succ k2 =>
       have H := HA.out
       clear HA
       simp only [customsref08_FormatGood.l1] at H
       by_cases c26 : x6_2 < (l0_2.length : Int)
       ·
        rw [if_pos c26] at H
        have c26b0 : decide (x6_2 < (l0_2.length : Int)) = true := decide_eq_true c26
        clear c26
        replace H := if_some H; obtain ⟨c27, H⟩ := H
        have c27b0 : decide (0 ≤ x6_2) = true := decide_eq_true c27
        clear c27
        replace H := Option.bind_eq_some_iff.mp H
        obtain ⟨t15008, A280, H⟩ := H
        try dsimp only at H
        have A28 := Aside0.mk A280
        clear A280
        replace H := if_some H; obtain ⟨c29, H⟩ := H
        have c29b0 := eq_true c29
        have c29b1 : decide (t15008.size + 1 ≤ 9223372036854775807) = true := decide_eq_true c29
        try have c29b2 : (9223372036854775807 < t15008.size + 1) = False := eq_false (Nat.not_lt.2 c29)
        replace H := Option.bind_eq_some_iff.mp H
        obtain ⟨t15010, A300, H⟩ := H
        try dsimp only at H
        have A30 := Aside0.mk A300
        clear A300
        replace H := if_some H; obtain ⟨c31, H⟩ := H
        have c31b0 := eq_true c31
        have c31b1 : decide ((t15008 ++ (⟨#[58]⟩ : ByteArray)).size + t15010.size ≤ 9223372036854775807) = true := decide_eq_true c31
        try have c31b2 : (9223372036854775807 < (t15008 ++ (⟨#[58]⟩ : ByteArray)).size + t15010.size) = False := eq_false (Nat.not_lt.2 c31)
        (try (have c31b3 := c31b2; simp only [ByteArray.size_append, show ∀ b : UInt8, (⟨#[b]⟩ : ByteArray).size = 1 from fun _ => rfl] at c31b3))
        (try (have c31b4 := c31b2; simp only [ByteArray.size_append, show ∀ b : UInt8, (⟨#[b]⟩ : ByteArray).size = 1 from fun _ => rfl, show ∀ b c d : UInt8, (⟨#[b, c, d]⟩ : ByteArray).size = 3 from fun _ _ _ => rfl] at c31b4))
        by_cases c32 : x6_2 = 0
        ·
         rw [if_pos c32] at H
         have c32b0 : (x6_2 == 0) = true := beq_iff_eq.mpr c32
         have c32b1 : (x6_2 != 0) = false := bne_eq_false_iff_eq.mpr c32
         clear c32
         replace H := if_some H; obtain ⟨c33, H⟩ := H
         have c33b0 := eq_true c33
         have c33b1 : decide (x3_2.size + 3 ≤ 9223372036854775807) = true := decide_eq_true c33
         try have c33b2 : (9223372036854775807 < x3_2.size + 3) = False := eq_false (Nat.not_lt.2 c33)
         replace H := if_some H; obtain ⟨c34, H⟩ := H
         have c34b0 := eq_true c34
         have c34b1 : decide ((x3_2 ++ (⟨#[32, 112, 58]⟩ : ByteArray)).size + ((t15008 ++ (⟨#[58]⟩ : ByteArray)) ++ t15010).size ≤ 9223372036854775807) = true := decide_eq_true c34
         try have c34b2 : (9223372036854775807 < (x3_2 ++ (⟨#[32, 112, 58]⟩ : ByteArray)).size + ((t15008 ++ (⟨#[58]⟩ : ByteArray)) ++ t15010).size) = False := eq_false (Nat.not_lt.2 c34)
         (try (have c34b3 := c34b2; simp only [ByteArray.size_append, show ∀ b : UInt8, (⟨#[b]⟩ : ByteArray).size = 1 from fun _ => rfl] at c34b3))
         (try (have c34b4 := c34b2; simp only [ByteArray.size_append, show ∀ b : UInt8, (⟨#[b]⟩ : ByteArray).size = 1 from fun _ => rfl, show ∀ b c d : UInt8, (⟨#[b, c, d]⟩ : ByteArray).size = 3 from fun _ _ _ => rfl] at c34b4))
         have H' := Aside0.mk H
         clear H
         obtain ⟨hcz35_0, hcz35_1, hcz35_2, hcz35_3, hfz35_0, hfz35_1, hfz35_2, hfz35_3⟩ := bk4 BK15001.out
         try go_wp2
         replace BK15001 := Aside0.mk (blk_drew BK15001.out)
         replace HB := Aside0.mk (below_drew1 HB.out)
         have p15007 : 0 ≤ (x6_2 : Int) := odt
         have q15007 : x6_2 < (l0_2.length : Int) := odt
         obtain ⟨ad15007, A15007_0, c15007_0, e15007, hx15007_0, hx15007_1, hl15007_0, hi15007_0⟩ := at_T38 HR0_2.out x6_2 p15007 q15007
         have hw15007_1 := hx15007_1
         have hw15007_0 := hx15007_0
         cases e15007
         (try replace hx15007_0 := (HB.out.cell (World.block_lt_of_cell? w _ hx15007_0)).trans hx15007_0)
         (try replace hx15007_1 := (HB.out.cell (World.block_lt_of_cell? w _ hx15007_1)).trans hx15007_1)
         have HR15007_0 := Aside0.mk hi15007_0
         have HC15007_0 := Aside0.mk hl15007_0
         clear hi15007_0 hl15007_0
         replace p15007 := eq_true p15007
         replace q15007 := eq_true q15007
         have p15009 : 0 ≤ (x6_2 : Int) := odt
         have q15009 : x6_2 < (l0_2.length : Int) := odt
         obtain ⟨ad15009, A15009_0, c15009_0, e15009, hx15009_0, hx15009_1, hl15009_0, hi15009_0⟩ := at_T38 HR0_2.out x6_2 p15009 q15009
         have hw15009_1 := hx15009_1
         have hw15009_0 := hx15009_0
         obtain rfl : ad15007 = ad15009 := (by injection e15009)
         (try replace hx15009_0 := (HB.out.cell (World.block_lt_of_cell? w _ hx15009_0)).trans hx15009_0)
         (try replace hx15009_1 := (HB.out.cell (World.block_lt_of_cell? w _ hx15009_1)).trans hx15009_1)
         have HR15009_0 := Aside0.mk hi15009_0
         have HC15009_0 := Aside0.mk hl15009_0
         clear hi15009_0 hl15009_0
         replace p15009 := eq_true p15009
         replace q15009 := eq_true q15009
         have ea_ := Option.some.inj (hx15007_0.symm.trans hx15009_0)
         injection ea_ with ea_ en_ ec_
         subst ea_
         subst ec_
         clear en_
         refine start_ (n := 17) (S := fun w' => w'.cell? ⟨gb15001, 0, none⟩ = some (.slice A0_0 l0_0.length c0_0) ∧ w'.cell? ⟨gb15001, 1, none⟩ = some (.slice A0_1 l0_1.length c0_1) ∧ w'.cell? ⟨gb15001, 2, none⟩ = some (.slice (some ad15007) l0_2.length c0_2) ∧ w'.cell? ⟨gb15001, 3, none⟩ = some (.bool a0_3) ∧ w'.cell? (ad15007.add ((x6_2).toNat * 2)) = some (.slice A15007_0 ((rd_T38 l0_2 x6_2).f0).length c15007_0) ∧ w'.cell? ⟨(ad15007.add ((x6_2).toNat * 2)).block, (ad15007.add ((x6_2).toNat * 2)).off + 1, none⟩ = some (.int .i64 ((rd_T38 l0_2 x6_2).f1)) ∧ w'.cell? (ad15007.add ((x6_2).toNat * 2)) = some (.slice A15007_0 ((rd_T38 l0_2 x6_2).f0).length c15007_0) ∧ w'.cell? ⟨(ad15007.add ((x6_2).toNat * 2)).block, (ad15007.add ((x6_2).toNat * 2)).off + 1, none⟩ = some (.int .i64 ((rd_T38 l0_2 x6_2).f1))) (ds := []) #[false, false, false, false, false, false, false, false, false, false, false, false, false, false, false, false, false] (by kernel_rfl) rfl rfl ⟨bc BK15001 0, bc BK15001 1, bc BK15001 2, bc BK15001 3, (by first | exact (HB.out.cell (World.block_lt_of_cell? w _ hw15007_0)).trans hw15007_0 | exact hw15007_0), (by first | exact (HB.out.cell (World.block_lt_of_cell? w _ hw15007_1)).trans hw15007_1 | exact hw15007_1), (by first | exact (HB.out.cell (World.block_lt_of_cell? w _ hw15009_0)).trans hw15009_0 | exact hw15009_0), (by first | exact (HB.out.cell (World.block_lt_of_cell? w _ hw15009_1)).trans hw15009_1 | exact hw15009_1)⟩ (fun hHeld => ?_); refine with_tabW customsref08_FormatGood.tab14 customsref08_FormatGood.bits14 (fun HT_ HW_ => ?_)
         generalize wr.drew = w36 at BK15001 HB HR15007_0 HR15009_0 hx15007_0 hx15007_1 hx15009_0 hx15009_1 hHeld ⊢
         refine purE 0 (some 53) HT_ ?_
         refine purE 2 (some 55) HT_ ?_
         refine purE 8 (some 61) HT_ ?_
         refine purE 10 (some 63) HT_ ?_
         refine tkE 1 (some 54) HT_ HW_ hHeld ?_ (hy := by rintro w' ⟨s0, s1, s2, s3, s4, s5, s6, s7⟩; go_simp; with_reducible rfl)
         refine purE 3 (some 56) HT_ ?_
         refine purE 4 (some 57) HT_ ?_
         refine tkE 5 (some 58) HT_ HW_ hHeld ?_ (hy := by rintro w' ⟨s0, s1, s2, s3, s4, s5, s6, s7⟩; go_simp; with_reducible rfl)
         refine tkE 9 (some 62) HT_ HW_ hHeld ?_ (hy := by rintro w' ⟨s0, s1, s2, s3, s4, s5, s6, s7⟩; go_simp; with_reducible rfl)
         refine purE 11 (some 64) HT_ ?_
         refine purE 12 (some 65) HT_ ?_
         refine tkE 13 (some 66) HT_ HW_ hHeld ?_ (hy := by rintro w' ⟨s0, s1, s2, s3, s4, s5, s6, s7⟩; go_simp; with_reducible rfl)
         refine oneE 6 (some 59) HT_ (fun K hK => ?_)
         refine goes_ Tryd.func34 (by kernel_rfl) rfl #[.slice A15007_0 ((rd_T38 l0_2 x6_2).f0).length c15007_0, .string (⟨#[43]⟩ : ByteArray)] (by rfl) rfl rfl goB ?_
         with_reducible refine (customsref08_Joined.calls k2 _ _ ((rd_T38 l0_2 x6_2).f0) (⟨#[43]⟩ : ByteArray) t15008 _ ?side1 ?side2 A28.out).mono ?_
         (case side1 => repeat (first | exact (Kd.C_below HR15007_0.out HB.out) | (with_reducible refine Kd.C_alloc ?_ _) | (with_reducible refine Kd.C_drewN ?_ _) | (with_reducible refine Kd.C_drew ?_)))
         (case side2 => exact HC15007_0.out)
         rintro e w' ⟨rfl, ⟨nd, rfl⟩⟩
         refine ⟨_, rfl, ?_⟩
         refine hK.out _ _ ⟨bc BK15001 0, bc BK15001 1, bc BK15001 2, bc BK15001 3, (by first | exact (HB.out.cell (World.block_lt_of_cell? w _ hw15007_0)).trans hw15007_0 | exact hw15007_0), (by first | exact (HB.out.cell (World.block_lt_of_cell? w _ hw15007_1)).trans hw15007_1 | exact hw15007_1), (by first | exact (HB.out.cell (World.block_lt_of_cell? w _ hw15009_0)).trans hw15009_0 | exact hw15009_0), (by first | exact (HB.out.cell (World.block_lt_of_cell? w _ hw15009_1)).trans hw15009_1 | exact hw15009_1)⟩ (fun hHeld => ?_)
         clear hK K
         refine nrmE (some 59) ?_
         refine purE 7 (some 60) HT_ ?_
         refine oneE 14 (some 67) HT_ (fun K hK => ?_)
         refine goes_ Tryd.func35 (by kernel_rfl) rfl #[.int .i64 ((rd_T38 l0_2 x6_2).f1)] (by rfl) rfl rfl goB ?_
         with_reducible refine (customsref02_Digits.calls k2 ((rd_T38 l0_2 x6_2).f1) t15010 _ A30.out).mono ?_
         rintro e w37 ⟨rfl, hb⟩
         refine ⟨_, rfl, ?_⟩
         replace BK15001 := mvB BK15001 hb
         replace HB := mvH HB hb
         (try clear hb)
         (try clear hb2)
         (try clear hk)
         (try clear hi)
         refine hK.out _ _ ⟨bc BK15001 0, bc BK15001 1, bc BK15001 2, bc BK15001 3, (by first | exact (HB.out.cell (World.block_lt_of_cell? w _ hw15007_0)).trans hw15007_0 | exact hw15007_0), (by first | exact (HB.out.cell (World.block_lt_of_cell? w _ hw15007_1)).trans hw15007_1 | exact hw15007_1), (by first | exact (HB.out.cell (World.block_lt_of_cell? w _ hw15009_0)).trans hw15009_0 | exact hw15009_0), (by first | exact (HB.out.cell (World.block_lt_of_cell? w _ hw15009_1)).trans hw15009_1 | exact hw15009_1)⟩ (fun hHeld => ?_)
         clear hK K
         refine nrmE (some 67) ?_
         refine purE 15 (some 68) HT_ ?_
         refine purE 16 (some 7) HT_ ?_
         refine done_ (done_of HT_.out (by kernel_rfl)) ?_
         try go_wp2
         go_roundg k2
         case measure => have := HK1.out; have := HK2.out; omega
         case rel => exact ⟨((x3_2 ++ (⟨#[32, 112, 58]⟩ : ByteArray)) ++ ((t15008 ++ (⟨#[58]⟩ : ByteArray)) ++ t15010)), (wrap64 (x6_2 + 1)), rls, rls, H', ⟨by have := HK1.out; have := HK2.out; omega⟩, ⟨blk_ext BK15001.out⟩, ⟨below_extB HB.out⟩⟩
        ·
         rw [if_neg c32] at H
         have c32b0 : (x6_2 == 0) = false := beq_eq_false_iff_ne.mpr c32
         have c32b1 : (x6_2 != 0) = true := bne_iff_ne.mpr c32
         replace H := if_some H; obtain ⟨c38, H⟩ := H
         have c38b0 := eq_true c38
         have c38b1 : decide (x3_2.size + 1 ≤ 9223372036854775807) = true := decide_eq_true c38
         try have c38b2 : (9223372036854775807 < x3_2.size + 1) = False := eq_false (Nat.not_lt.2 c38)
         replace H := if_some H; obtain ⟨c39, H⟩ := H
         have c39b0 := eq_true c39
         have c39b1 : decide ((x3_2 ++ (⟨#[44]⟩ : ByteArray)).size + ((t15008 ++ (⟨#[58]⟩ : ByteArray)) ++ t15010).size ≤ 9223372036854775807) = true := decide_eq_true c39
         try have c39b2 : (9223372036854775807 < (x3_2 ++ (⟨#[44]⟩ : ByteArray)).size + ((t15008 ++ (⟨#[58]⟩ : ByteArray)) ++ t15010).size) = False := eq_false (Nat.not_lt.2 c39)
         (try (have c39b3 := c39b2; simp only [ByteArray.size_append, show ∀ b : UInt8, (⟨#[b]⟩ : ByteArray).size = 1 from fun _ => rfl] at c39b3))
         (try (have c39b4 := c39b2; simp only [ByteArray.size_append, show ∀ b : UInt8, (⟨#[b]⟩ : ByteArray).size = 1 from fun _ => rfl, show ∀ b c d : UInt8, (⟨#[b, c, d]⟩ : ByteArray).size = 3 from fun _ _ _ => rfl] at c39b4))
         have H' := Aside0.mk H
         clear H
         obtain ⟨hcz40_0, hcz40_1, hcz40_2, hcz40_3, hfz40_0, hfz40_1, hfz40_2, hfz40_3⟩ := bk4 BK15001.out
         try go_wp2
         replace BK15001 := Aside0.mk (blk_drew BK15001.out)
         replace HB := Aside0.mk (below_drew1 HB.out)
         have p15007 : 0 ≤ (x6_2 : Int) := odt
         have q15007 : x6_2 < (l0_2.length : Int) := odt
         obtain ⟨ad15007, A15007_0, c15007_0, e15007, hx15007_0, hx15007_1, hl15007_0, hi15007_0⟩ := at_T38 HR0_2.out x6_2 p15007 q15007
         have hw15007_1 := hx15007_1
         have hw15007_0 := hx15007_0
         cases e15007
         (try replace hx15007_0 := (HB.out.cell (World.block_lt_of_cell? w _ hx15007_0)).trans hx15007_0)
         (try replace hx15007_1 := (HB.out.cell (World.block_lt_of_cell? w _ hx15007_1)).trans hx15007_1)
         have HR15007_0 := Aside0.mk hi15007_0
         have HC15007_0 := Aside0.mk hl15007_0
         clear hi15007_0 hl15007_0
         replace p15007 := eq_true p15007
         replace q15007 := eq_true q15007
         have p15009 : 0 ≤ (x6_2 : Int) := odt
         have q15009 : x6_2 < (l0_2.length : Int) := odt
         obtain ⟨ad15009, A15009_0, c15009_0, e15009, hx15009_0, hx15009_1, hl15009_0, hi15009_0⟩ := at_T38 HR0_2.out x6_2 p15009 q15009
         have hw15009_1 := hx15009_1
         have hw15009_0 := hx15009_0
         obtain rfl : ad15007 = ad15009 := (by injection e15009)
         (try replace hx15009_0 := (HB.out.cell (World.block_lt_of_cell? w _ hx15009_0)).trans hx15009_0)
         (try replace hx15009_1 := (HB.out.cell (World.block_lt_of_cell? w _ hx15009_1)).trans hx15009_1)
         have HR15009_0 := Aside0.mk hi15009_0
         have HC15009_0 := Aside0.mk hl15009_0
         clear hi15009_0 hl15009_0
         replace p15009 := eq_true p15009
         replace q15009 := eq_true q15009
         have ea_ := Option.some.inj (hx15007_0.symm.trans hx15009_0)
         injection ea_ with ea_ en_ ec_
         subst ea_
         subst ec_
         clear en_
         refine start_ (n := 17) (S := fun w' => w'.cell? ⟨gb15001, 0, none⟩ = some (.slice A0_0 l0_0.length c0_0) ∧ w'.cell? ⟨gb15001, 1, none⟩ = some (.slice A0_1 l0_1.length c0_1) ∧ w'.cell? ⟨gb15001, 2, none⟩ = some (.slice (some ad15007) l0_2.length c0_2) ∧ w'.cell? ⟨gb15001, 3, none⟩ = some (.bool a0_3) ∧ w'.cell? (ad15007.add ((x6_2).toNat * 2)) = some (.slice A15007_0 ((rd_T38 l0_2 x6_2).f0).length c15007_0) ∧ w'.cell? ⟨(ad15007.add ((x6_2).toNat * 2)).block, (ad15007.add ((x6_2).toNat * 2)).off + 1, none⟩ = some (.int .i64 ((rd_T38 l0_2 x6_2).f1)) ∧ w'.cell? (ad15007.add ((x6_2).toNat * 2)) = some (.slice A15007_0 ((rd_T38 l0_2 x6_2).f0).length c15007_0) ∧ w'.cell? ⟨(ad15007.add ((x6_2).toNat * 2)).block, (ad15007.add ((x6_2).toNat * 2)).off + 1, none⟩ = some (.int .i64 ((rd_T38 l0_2 x6_2).f1))) (ds := []) #[false, false, false, false, false, false, false, false, false, false, false, false, false, false, false, false, false] (by kernel_rfl) rfl rfl ⟨bc BK15001 0, bc BK15001 1, bc BK15001 2, bc BK15001 3, (by first | exact (HB.out.cell (World.block_lt_of_cell? w _ hw15007_0)).trans hw15007_0 | exact hw15007_0), (by first | exact (HB.out.cell (World.block_lt_of_cell? w _ hw15007_1)).trans hw15007_1 | exact hw15007_1), (by first | exact (HB.out.cell (World.block_lt_of_cell? w _ hw15009_0)).trans hw15009_0 | exact hw15009_0), (by first | exact (HB.out.cell (World.block_lt_of_cell? w _ hw15009_1)).trans hw15009_1 | exact hw15009_1)⟩ (fun hHeld => ?_); refine with_tabW customsref08_FormatGood.tab14 customsref08_FormatGood.bits14 (fun HT_ HW_ => ?_)
         generalize wr.drew = w41 at BK15001 HB HR15007_0 HR15009_0 hx15007_0 hx15007_1 hx15009_0 hx15009_1 hHeld ⊢
         refine purE 0 (some 53) HT_ ?_
         refine purE 2 (some 55) HT_ ?_
         refine purE 8 (some 61) HT_ ?_
         refine purE 10 (some 63) HT_ ?_
         refine tkE 1 (some 54) HT_ HW_ hHeld ?_ (hy := by rintro w' ⟨s0, s1, s2, s3, s4, s5, s6, s7⟩; go_simp; with_reducible rfl)
         refine purE 3 (some 56) HT_ ?_
         refine purE 4 (some 57) HT_ ?_
         refine tkE 5 (some 58) HT_ HW_ hHeld ?_ (hy := by rintro w' ⟨s0, s1, s2, s3, s4, s5, s6, s7⟩; go_simp; with_reducible rfl)
         refine tkE 9 (some 62) HT_ HW_ hHeld ?_ (hy := by rintro w' ⟨s0, s1, s2, s3, s4, s5, s6, s7⟩; go_simp; with_reducible rfl)
         refine purE 11 (some 64) HT_ ?_
         refine purE 12 (some 65) HT_ ?_
         refine tkE 13 (some 66) HT_ HW_ hHeld ?_ (hy := by rintro w' ⟨s0, s1, s2, s3, s4, s5, s6, s7⟩; go_simp; with_reducible rfl)
         refine oneE 6 (some 59) HT_ (fun K hK => ?_)
         refine goes_ Tryd.func34 (by kernel_rfl) rfl #[.slice A15007_0 ((rd_T38 l0_2 x6_2).f0).length c15007_0, .string (⟨#[43]⟩ : ByteArray)] (by rfl) rfl rfl goB ?_
         with_reducible refine (customsref08_Joined.calls k2 _ _ ((rd_T38 l0_2 x6_2).f0) (⟨#[43]⟩ : ByteArray) t15008 _ ?side1 ?side2 A28.out).mono ?_
         (case side1 => repeat (first | exact (Kd.C_below HR15007_0.out HB.out) | (with_reducible refine Kd.C_alloc ?_ _) | (with_reducible refine Kd.C_drewN ?_ _) | (with_reducible refine Kd.C_drew ?_)))
         (case side2 => exact HC15007_0.out)
         rintro e w' ⟨rfl, ⟨nd, rfl⟩⟩
         refine ⟨_, rfl, ?_⟩
         refine hK.out _ _ ⟨bc BK15001 0, bc BK15001 1, bc BK15001 2, bc BK15001 3, (by first | exact (HB.out.cell (World.block_lt_of_cell? w _ hw15007_0)).trans hw15007_0 | exact hw15007_0), (by first | exact (HB.out.cell (World.block_lt_of_cell? w _ hw15007_1)).trans hw15007_1 | exact hw15007_1), (by first | exact (HB.out.cell (World.block_lt_of_cell? w _ hw15009_0)).trans hw15009_0 | exact hw15009_0), (by first | exact (HB.out.cell (World.block_lt_of_cell? w _ hw15009_1)).trans hw15009_1 | exact hw15009_1)⟩ (fun hHeld => ?_)
         clear hK K
         refine nrmE (some 59) ?_
         refine purE 7 (some 60) HT_ ?_
         refine oneE 14 (some 67) HT_ (fun K hK => ?_)
         refine goes_ Tryd.func35 (by kernel_rfl) rfl #[.int .i64 ((rd_T38 l0_2 x6_2).f1)] (by rfl) rfl rfl goB ?_
         with_reducible refine (customsref02_Digits.calls k2 ((rd_T38 l0_2 x6_2).f1) t15010 _ A30.out).mono ?_
         rintro e w42 ⟨rfl, hb⟩
         refine ⟨_, rfl, ?_⟩
         replace BK15001 := mvB BK15001 hb
         replace HB := mvH HB hb
         (try clear hb)
         (try clear hb2)
         (try clear hk)
         (try clear hi)
         refine hK.out _ _ ⟨bc BK15001 0, bc BK15001 1, bc BK15001 2, bc BK15001 3, (by first | exact (HB.out.cell (World.block_lt_of_cell? w _ hw15007_0)).trans hw15007_0 | exact hw15007_0), (by first | exact (HB.out.cell (World.block_lt_of_cell? w _ hw15007_1)).trans hw15007_1 | exact hw15007_1), (by first | exact (HB.out.cell (World.block_lt_of_cell? w _ hw15009_0)).trans hw15009_0 | exact hw15009_0), (by first | exact (HB.out.cell (World.block_lt_of_cell? w _ hw15009_1)).trans hw15009_1 | exact hw15009_1)⟩ (fun hHeld => ?_)
         clear hK K
         refine nrmE (some 67) ?_
         refine purE 15 (some 68) HT_ ?_
         refine purE 16 (some 7) HT_ ?_
         refine done_ (done_of HT_.out (by kernel_rfl)) ?_
         try go_wp2
         go_roundg k2
         case measure => have := HK1.out; have := HK2.out; omega
         case rel => exact ⟨((x3_2 ++ (⟨#[44]⟩ : ByteArray)) ++ ((t15008 ++ (⟨#[58]⟩ : ByteArray)) ++ t15010)), (wrap64 (x6_2 + 1)), rls, rls, H', ⟨by have := HK1.out; have := HK2.out; omega⟩, ⟨blk_ext BK15001.out⟩, ⟨below_extB HB.out⟩⟩
       ·
        rw [if_neg c26] at H
        have c26b0 : decide (x6_2 < (l0_2.length : Int)) = false := decide_eq_false c26
        clear c26
        by_cases c43 : a0_3 = true
        ·
         subst c43
         have H1 : (if x3_2.size + 11 ≤ 9223372036854775807 then (some (x3_2 ++ (⟨#[32, 105, 110, 99, 111, 109, 112, 108, 101, 116, 101]⟩ : ByteArray))) else (none)) = some r := by rw [if_pos rfl] at H; exact H
         clear H
         have H := H1
         clear H1
         replace H := if_some H; obtain ⟨c44, H⟩ := H
         have c44b0 := eq_true c44
         have c44b1 : decide (x3_2.size + 11 ≤ 9223372036854775807) = true := decide_eq_true c44
         try have c44b2 : (9223372036854775807 < x3_2.size + 11) = False := eq_false (Nat.not_lt.2 c44)
         obtain rfl := Option.some.inj H
         obtain ⟨hcz45_0, hcz45_1, hcz45_2, hcz45_3, hfz45_0, hfz45_1, hfz45_2, hfz45_3⟩ := bk4 BK15001.out
         go_wp2
         go_ret
         exact ⟨by first | rfl | (simp [errW_none, errW_some] <;> rfl) | (simp [*, errW_none, errW_some] <;> rfl), below_extB HB.out⟩
        ·
         replace c43 := Bool.eq_false_iff.mpr c43
         subst c43
         have H1 : (some x3_2) = some r := by rw [if_neg (show ¬ (false = true) by decide)] at H; exact H
         clear H
         have H := H1
         clear H1
         obtain rfl := Option.some.inj H
         obtain ⟨hcz46_0, hcz46_1, hcz46_2, hcz46_3, hfz46_0, hfz46_1, hfz46_2, hfz46_3⟩ := bk4 BK15001.out
         go_wp2
         go_ret
         exact ⟨by first | rfl | (simp [errW_none, errW_some] <;> rfl) | (simp [*, errW_none, errW_some] <;> rfl), below_extB HB.out⟩
 ·
  rw [if_neg c3] at H
  have c3b0 : (t15002 == 0) = false := beq_eq_false_iff_ne.mpr c3
  have c3b1 : (t15002 != 0) = true := bne_iff_ne.mpr c3
  obtain rfl := Option.some.inj H
  go_enter Tryd.func15, Tryd.ntmps15
  go_wp2_with (first | ((with_reducible refine gate_dst (N := 1) rfl ?_); refine box_event ?hg (N := 1) ?hd (cs := #[.slice A0_0 l0_0.length c0_0, .slice A0_1 l0_1.length c0_1, .slice A0_2 l0_2.length c0_2, .bool a0_3]) (t := 26) ?hr ?_; (case hd => rfl); (case hg => rfl); (case hr => exact goR); intro gb15001 hg w47 hbox hb; have BK15001 := Aside0.mk (hbox); have GW15001 := gwE hg HB; have GE15001 := GW15001; have GI15001 := GE_.mk GE15001.out; replace HB := mvH HB hb; clear hb hbox hg; obtain ⟨hcz48_0, hcz48_1, hcz48_2, hcz48_3, hfz48_0, hfz48_1, hfz48_2, hfz48_3⟩ := bk4 BK15001.out) | ((with_reducible refine gate_callee (f := 11) rfl ?_); refine goesL_ (some 9) rfl rfl Tryd.func11 (by kernel_rfl) rfl #[.agg #[.slice A0_0 l0_0.length c0_0, .slice A0_1 l0_1.length c0_1, .slice A0_2 l0_2.length c0_2, .bool a0_3]] rfl goA ?_; (with_reducible refine (customsref08_Good.calls k _ _ l0_0 _ _ l0_1 _ _ l0_2 a0_3 t15002 _ ?side1 ?side2 ?side3 ?side4 ?side5 ?side6 A2.out).mono ?_); (case side1 => repeat (first | exact (Kd.C_below HR0_0.out HB.out) | (with_reducible refine Kd.C_alloc ?_ _) | (with_reducible refine Kd.C_drewN ?_ _) | (with_reducible refine Kd.C_drew ?_))); (case side2 => exact HC0_0.out); (case side3 => repeat (first | exact (Kd.C_below HR0_1.out HB.out) | (with_reducible refine Kd.C_alloc ?_ _) | (with_reducible refine Kd.C_drewN ?_ _) | (with_reducible refine Kd.C_drew ?_))); (case side4 => exact HC0_1.out); (case side5 => repeat (first | exact (Kd.C_below HR0_2.out HB.out) | (with_reducible refine Kd.C_alloc ?_ _) | (with_reducible refine Kd.C_drewN ?_ _) | (with_reducible refine Kd.C_drew ?_))); (case side6 => exact HC0_2.out); rintro e w49 ⟨rfl, hb⟩; refine ⟨_, rfl, ?_⟩; replace BK15001 := mvB BK15001 hb; replace HB := mvH HB hb; (try clear hb); (try clear hb2); (try clear hk); (try clear hi)))
  go_ret
  exact ⟨by first | rfl | (simp [errW_none, errW_some] <;> rfl) | (simp [*, errW_none, errW_some] <;> rfl), below_extB HB.out⟩

end Go.Proofs.YtoolggpfgadjlaaDoor.Z
