/- Printed: a Go function in plain Lean, and that its call does what it says. Conditions: those each theorem states. -/
import Derived.Test.YtoolggpfgadjlaaDoorZ0
import Derived.Test.YtoolggpfgadjlaaDoorZgoodsValidate
import Derived.Test.YtoolggpfgadjlaaDoorZstringsJoin
import Derived.Test.YtoolggpfgadjlaaDoorZstrconvItoa33
namespace Go.Proofs.YtoolggpfgadjlaaDoor.Z
open Go.RowKit Go.Proofs.YtoolggpfgadjlaaDoorW.PrintWords Go.Proofs.YtoolggpfgadjlaaDoorW.PrintLast Go.Proofs.YtoolggpfgadjlaaDoorW.PrintMore
attribute [local go_sem high] str_leq str_geq str_gtr   -- strings
attribute [local go_sem] max2_int min2_int max_two min_two max_three min_three max_four min_four   -- for this text's walks alone
set_option linter.unusedVariables false
set_option linter.unusedSimpArgs false

/-! ### goods_Format: function 14 -/
mutual
def goods_Format.l0 : Nat → ByteArray → List ByteArray → List (S36) → Int → Int → List ByteArray → List (S36) → List (S38) → Bool → Option (ByteArray)
 | 0, _, _, _, _, _, _, _, _, _ => none
 | k + 1, x3, x4, x16, x17, x18, x14002000, x14002001, x14002002, x14002003 => if x18 < x17 then (if 0 ≤ x18 then (if x18 < (x16.length : Int) then (if ((rd_T36 x16 x18).f0).size + 1 ≤ 9223372036854775807 then ((strconv_Itoa_33.f ((rd_T36 x16 x18).f1)).bind fun t14006 => (if (((rd_T36 x16 x18).f0) ++ (⟨#[58]⟩ : ByteArray)).size + t14006.size ≤ 9223372036854775807 then (if x4.length < 8796093022208 then (goods_Format.l0 k x3 (x4 ++ [(((rd_T36 x16 x18).f0) ++ (⟨#[58]⟩ : ByteArray)) ++ t14006]) x16 x17 (wrap64 (x18 + 1)) x14002000 x14002001 x14002002 x14002003) else (none)) else (none))) else (none)) else (none)) else (none)) else (if (x4.length : Int) > 0 then ((strings_Join.f x4 (⟨#[44]⟩ : ByteArray)).bind fun t14010 => (if 3 + t14010.size ≤ 9223372036854775807 then (if x3.size + ((⟨#[32, 109, 58]⟩ : ByteArray) ++ t14010).size ≤ 9223372036854775807 then (goods_Format.j1 k (x3 ++ ((⟨#[32, 109, 58]⟩ : ByteArray) ++ t14010)) x14002000 x14002001 x14002002 x14002003) else (none)) else (none))) else (goods_Format.j1 k x3 x14002000 x14002001 x14002002 x14002003))
def goods_Format.j1 : Nat → ByteArray → List ByteArray → List (S36) → List (S38) → Bool → Option (ByteArray)
 | 0, _, _, _, _, _ => none
 | k + 1, x3, x14002000, x14002001, x14002002, x14002003 => goods_Format.l1 k x3 ([] : List ByteArray) x14002002 (x14002002.length : Int) 0 x14002000 x14002001 x14002002 x14002003
def goods_Format.l1 : Nat → ByteArray → List ByteArray → List (S38) → Int → Int → List ByteArray → List (S36) → List (S38) → Bool → Option (ByteArray)
 | 0, _, _, _, _, _, _, _, _, _ => none
 | k + 1, x3, x4, x42, x43, x44, x14002000, x14002001, x14002002, x14002003 => if x44 < x43 then (if 0 ≤ x44 then (if x44 < (x42.length : Int) then ((strings_Join.f ((rd_T38 x42 x44).f0) (⟨#[43]⟩ : ByteArray)).bind fun t14013 => (if t14013.size + 1 ≤ 9223372036854775807 then ((strconv_Itoa_33.f ((rd_T38 x42 x44).f1)).bind fun t14014 => (if (t14013 ++ (⟨#[58]⟩ : ByteArray)).size + t14014.size ≤ 9223372036854775807 then (if x4.length < 8796093022208 then (goods_Format.l1 k x3 (x4 ++ [(t14013 ++ (⟨#[58]⟩ : ByteArray)) ++ t14014]) x42 x43 (wrap64 (x44 + 1)) x14002000 x14002001 x14002002 x14002003) else (none)) else (none))) else (none))) else (none)) else (none)) else (if (x4.length : Int) > 0 then ((strings_Join.f x4 (⟨#[44]⟩ : ByteArray)).bind fun t14018 => (if 3 + t14018.size ≤ 9223372036854775807 then (if x3.size + ((⟨#[32, 112, 58]⟩ : ByteArray) ++ t14018).size ≤ 9223372036854775807 then (if x14002003 = true then (if (x3 ++ ((⟨#[32, 112, 58]⟩ : ByteArray) ++ t14018)).size + 11 ≤ 9223372036854775807 then (some ((x3 ++ ((⟨#[32, 112, 58]⟩ : ByteArray) ++ t14018)) ++ (⟨#[32, 105, 110, 99, 111, 109, 112, 108, 101, 116, 101]⟩ : ByteArray))) else (none)) else (some (x3 ++ ((⟨#[32, 112, 58]⟩ : ByteArray) ++ t14018)))) else (none)) else (none))) else (if x14002003 = true then (if x3.size + 11 ≤ 9223372036854775807 then (some (x3 ++ (⟨#[32, 105, 110, 99, 111, 109, 112, 108, 101, 116, 101]⟩ : ByteArray))) else (none)) else (some x3)))
end
def goods_Format.f (k : Nat) (l0_0 : List ByteArray) (l0_1 : List (S36)) (l0_2 : List (S38)) (a0_3 : Bool) : Option (ByteArray) := (goods_Validate.f k l0_0 l0_1 l0_2 a0_3).bind fun t14002 => (if t14002 = 0 then ((strings_Join.f l0_0 (⟨#[43]⟩ : ByteArray)).bind fun t14003 => (goods_Format.l0 k t14003 ([] : List ByteArray) l0_1 (l0_1.length : Int) 0 l0_0 l0_1 l0_2 a0_3)) else (some (⟨#[]⟩ : ByteArray)))
theorem goods_Format.mono_l : ∀ k, (∀ y0 y1 y2 y3 y4 y5 y6 y7 y8, LeO (goods_Format.l0 k y0 y1 y2 y3 y4 y5 y6 y7 y8) (goods_Format.l0 (k + 1) y0 y1 y2 y3 y4 y5 y6 y7 y8)) ∧ (∀ y0 y1 y2 y3 y4, LeO (goods_Format.j1 k y0 y1 y2 y3 y4) (goods_Format.j1 (k + 1) y0 y1 y2 y3 y4)) ∧ (∀ y0 y1 y2 y3 y4 y5 y6 y7 y8, LeO (goods_Format.l1 k y0 y1 y2 y3 y4 y5 y6 y7 y8) (goods_Format.l1 (k + 1) y0 y1 y2 y3 y4 y5 y6 y7 y8))
 | 0 => ⟨fun _ _ _ _ _ _ _ _ _ r h => by simp [goods_Format.l0] at h, fun _ _ _ _ _ r h => by simp [goods_Format.j1] at h, fun _ _ _ _ _ _ _ _ _ r h => by simp [goods_Format.l1] at h⟩
 | k + 1 => by
  obtain ⟨ih0, ih1, ih2⟩ := goods_Format.mono_l k
  refine ⟨?_, ?_, ?_⟩ <;> intros
  all_goals first | unfold goods_Format.l0 | unfold goods_Format.j1 | unfold goods_Format.l1
  all_goals repeat' first
   | (with_reducible exact ih0 _ _ _ _ _ _ _ _ _)
   | (with_reducible exact ih1 _ _ _ _ _)
   | (with_reducible exact ih2 _ _ _ _ _ _ _ _ _)
   | (with_reducible exact goods_Validate.mono _ _ _ _ _)
   | (with_reducible exact LeO.refl _)
   | (with_reducible exact LeO.none _)
   | (with_reducible refine LeO.ite ?_ ?_)
   | (with_reducible refine LeO.bind ?_ (fun _ => ?_))
   | exact ih0 _ _ _ _ _ _ _ _ _
   | exact ih1 _ _ _ _ _
   | exact ih2 _ _ _ _ _ _ _ _ _
   | exact goods_Validate.mono _ _ _ _ _
   | exact LeO.none _
   | refine LeO.ite ?_ ?_
   | refine LeO.bind ?_ (fun _ => ?_)
theorem goods_Format.mono : ∀ a0 a1 a2 a3 k, LeO (goods_Format.f k a0 a1 a2 a3) (goods_Format.f (k + 1) a0 a1 a2 a3) := by
 intro a0 a1 a2 a3 k
 obtain ⟨ih0, ih1, ih2⟩ := goods_Format.mono_l k
 unfold goods_Format.f
 repeat' first
   | (with_reducible exact ih0 _ _ _ _ _ _ _ _ _)
   | (with_reducible exact ih1 _ _ _ _ _)
   | (with_reducible exact ih2 _ _ _ _ _ _ _ _ _)
   | (with_reducible exact goods_Validate.mono _ _ _ _ _)
   | (with_reducible exact LeO.refl _)
   | (with_reducible exact LeO.none _)
   | (with_reducible refine LeO.ite ?_ ?_)
   | (with_reducible refine LeO.bind ?_ (fun _ => ?_))
   | exact ih0 _ _ _ _ _ _ _ _ _
   | exact ih1 _ _ _ _ _
   | exact ih2 _ _ _ _ _ _ _ _ _
   | exact goods_Validate.mono _ _ _ _ _
   | exact LeO.none _
   | refine LeO.ite ?_ ?_
   | refine LeO.bind ?_ (fun _ => ?_)
def goods_Format.T8 : Bool × List (List Nat × List Nat) := (true, [([], []), ([], []), ([1], [1]), ([2], [2]), ([], []), ([4], [4]), ([5], [5]), ([3, 6], [3, 6]), ([7], [7]), ([0, 8, 6], [0, 8]), ([9, 9, 0, 1, 2, 3, 4, 5, 6, 7, 8, 9], [0, 9])])
def goods_Format.B8 : List Nat := [0, 0, 2, 6, 0, 16, 48, 126, 254, 511, 1023]
theorem goods_Format.tab8 : rtab .any (opsOf Tryd.f14 8) = goods_Format.T8 := by kernel_rfl
theorem goods_Format.bits8 : waitsOk goods_Format.T8.2 goods_Format.B8 = true := by kernel_rfl
def goods_Format.T16 : Bool × List (List Nat × List Nat) := (true, [([], []), ([], []), ([1], [1]), ([2], [2]), ([3], [3]), ([], []), ([5], [5]), ([6, 3], [6]), ([4, 7], [4, 7]), ([8], [8]), ([0, 9, 7], [0, 9]), ([10, 10, 0, 1, 2, 3, 4, 5, 6, 7, 8, 9, 10], [0, 10])])
def goods_Format.B16 : List Nat := [0, 0, 2, 6, 14, 0, 32, 110, 254, 510, 1023, 2047]
theorem goods_Format.tab16 : rtab .any (opsOf Tryd.f14 16) = goods_Format.T16 := by kernel_rfl
theorem goods_Format.bits16 : waitsOk goods_Format.T16.2 goods_Format.B16 = true := by kernel_rfl
set_option maxHeartbeats 8000000 in
set_option maxRecDepth 100000 in
theorem goods_Format.calls (k : Nat) (A0_0 : Option Addr) (c0_0 : Nat) (l0_0 : List ByteArray) (A0_1 : Option Addr) (c0_1 : Nat) (l0_1 : List (S36)) (A0_2 : Option Addr) (c0_2 : Nat) (l0_2 : List (S38)) (a0_3 : Bool) (r : ByteArray) (w : World) (hr0_0 : Kd.C Kd.string w A0_0 l0_0.length l0_0) (hc0_0 : l0_0.length ≤ c0_0) (hr0_1 : Kd.C k36 w A0_1 l0_1.length l0_1) (hc0_1 : l0_1.length ≤ c0_1) (hr0_2 : Kd.C k38 w A0_2 l0_2.length l0_2) (hc0_2 : l0_2.length ≤ c0_2) (h : goods_Format.f k l0_0 l0_1 l0_2 a0_3 = some r) (hG : GL w) :
  Calls Tryd.prog 14 #[.agg #[.slice A0_0 l0_0.length c0_0, .slice A0_1 l0_1.length c0_1, .slice A0_2 l0_2.length c0_2, .bool a0_3]] w fun e w' => e = .returned (.string r) ∧ Below w.heap.size w w' := by
 have hu26 := Tryd.underlying26
 have hu36 := Tryd.underlying36
 have hu38 := Tryd.underlying38
 have HR0_0 := Aside0.mk hr0_0
 have HC0_0 := Aside0.mk hc0_0
 clear hr0_0 hc0_0
 have HR0_1 := Aside0.mk hr0_1
 have HC0_1 := Aside0.mk hc0_1
 clear hr0_1 hc0_1
 have HR0_2 := Aside0.mk hr0_2
 have HC0_2 := Aside0.mk hc0_2
 clear hr0_2 hc0_2
 have HB := Aside0.mk (Below.refl w.heap.size w)
 have H : ((goods_Validate.f k l0_0 l0_1 l0_2 a0_3).bind fun t14002 => (if t14002 = 0 then ((strings_Join.f l0_0 (⟨#[43]⟩ : ByteArray)).bind fun t14003 => (goods_Format.l0 k t14003 ([] : List ByteArray) l0_1 (l0_1.length : Int) 0 l0_0 l0_1 l0_2 a0_3)) else (some (⟨#[]⟩ : ByteArray)))) = some r := h
 clear h
 have HG := Aside0.mk hG
 clear hG
 replace H := Option.bind_eq_some_iff.mp H
 obtain ⟨t14002, A20, H⟩ := H
 try dsimp only at H
 have A2 := Aside0.mk A20
 clear A20
 by_cases c3 : t14002 = 0
 ·
  rw [if_pos c3] at H
  have c3b0 : (t14002 == 0) = true := beq_iff_eq.mpr c3
  have c3b1 : (t14002 != 0) = false := bne_eq_false_iff_eq.mpr c3
  clear c3
  replace H := Option.bind_eq_some_iff.mp H
  obtain ⟨t14003, A40, H⟩ := H
  try dsimp only at H
  have A4 := Aside0.mk A40
  clear A40
  have H' := Aside0.mk H
  clear H
  go_enter Tryd.func14, Tryd.ntmps14
  go_wp2_with (first | ((with_reducible refine gate_dst (N := 1) rfl ?_); refine box_event ?hg (N := 1) ?hd (cs := #[.slice A0_0 l0_0.length c0_0, .slice A0_1 l0_1.length c0_1, .slice A0_2 l0_2.length c0_2, .bool a0_3]) (t := 26) ?hr ?_; (case hd => rfl); (case hg => rfl); (case hr => exact goR); intro gb14001 hg w5 hbox hb; have BK14001 := Aside0.mk (hbox); have GW14001 := gwE hg HB; have GE14001 := GW14001; have GI14001 := GE_.mk GE14001.out; replace HB := mvH HB hb; clear hb hbox hg; obtain ⟨hcz6_0, hcz6_1, hcz6_2, hcz6_3, hfz6_0, hfz6_1, hfz6_2, hfz6_3⟩ := bk4 BK14001.out) | ((with_reducible refine gate_callee (f := 10) rfl ?_); refine goesL_ (some 10) rfl rfl Tryd.func10 (by kernel_rfl) rfl #[.agg #[.slice A0_0 l0_0.length c0_0, .slice A0_1 l0_1.length c0_1, .slice A0_2 l0_2.length c0_2, .bool a0_3]] rfl goA ?_; (with_reducible refine (goods_Validate.calls k _ _ l0_0 _ _ l0_1 _ _ l0_2 a0_3 t14002 _ ?side1 ?side2 ?side3 ?side4 ?side5 ?side6 A2.out).mono ?_); (case side1 => repeat (first | exact (Kd.C_below HR0_0.out HB.out) | (with_reducible refine Kd.C_alloc ?_ _) | (with_reducible refine Kd.C_drewN ?_ _) | (with_reducible refine Kd.C_drew ?_))); (case side2 => exact HC0_0.out); (case side3 => repeat (first | exact (Kd.C_below HR0_1.out HB.out) | (with_reducible refine Kd.C_alloc ?_ _) | (with_reducible refine Kd.C_drewN ?_ _) | (with_reducible refine Kd.C_drew ?_))); (case side4 => exact HC0_1.out); (case side5 => repeat (first | exact (Kd.C_below HR0_2.out HB.out) | (with_reducible refine Kd.C_alloc ?_ _) | (with_reducible refine Kd.C_drewN ?_ _) | (with_reducible refine Kd.C_drew ?_))); (case side6 => exact HC0_2.out); rintro e w7 ⟨rfl, hb⟩; refine ⟨_, rfl, ?_⟩; replace BK14001 := mvB BK14001 hb; replace HB := mvH HB hb; (try clear hb); (try clear hb2); (try clear hk); (try clear hi); obtain ⟨hcz8_0, hcz8_1, hcz8_2, hcz8_3, hfz8_0, hfz8_1, hfz8_2, hfz8_3⟩ := bk4 BK14001.out) | ((with_reducible refine gate_callee (f := 32) rfl ?_); refine goesL_ (some 14) rfl rfl Tryd.func32 (by kernel_rfl) rfl #[.slice A0_0 l0_0.length c0_0, .string (⟨#[43]⟩ : ByteArray)] rfl goA ?_; (with_reducible refine (strings_Join.calls _ _ l0_0 (⟨#[43]⟩ : ByteArray) t14003 _ ?side1 ?side2 A4.out).mono ?_); (case side1 => repeat (first | exact (Kd.C_below HR0_0.out HB.out) | (with_reducible refine Kd.C_alloc ?_ _) | (with_reducible refine Kd.C_drewN ?_ _) | (with_reducible refine Kd.C_drew ?_))); (case side2 => exact HC0_0.out); rintro e w9 ⟨rfl, hb⟩; refine ⟨_, rfl, ?_⟩; replace BK14001 := mvB BK14001 hb; replace HB := mvH HB hb; (try clear hb); (try clear hb2); (try clear hk); (try clear hi); obtain ⟨hcz10_0, hcz10_1, hcz10_2, hcz10_3, hfz10_0, hfz10_1, hfz10_2, hfz10_3⟩ := bk4 BK14001.out))
  go_loopg [4, 18] k (fun kq v4 v18 w' => ∃ (x4_1 : List ByteArray) (x18_1 : Int), v18 = .int .i64 x18_1 ∧ Aside0 (goods_Format.l0 kq t14003 x4_1 l0_1 (l0_1.length : Int) x18_1 l0_0 l0_1 l0_2 a0_3 = some r) ∧ Aside0 (kq ≤ k) ∧ Aside0 (Kd.R Kd.string 9 w' w.heap.size (fun _ => True) v4 x4_1) ∧ Aside0 (w'.heap[gb14001]? = some (.cells #[(.slice A0_0 l0_0.length c0_0), (.slice A0_1 l0_1.length c0_1), (.slice A0_2 l0_2.length c0_2), .bool a0_3] 26 (0, 0))) ∧ Aside0 (Below w.heap.size w w'))
  case atStart => exact ⟨(([] : List ByteArray)), (0), rls, H', ⟨Nat.le_refl _⟩, ⟨by first | exact Kd.R_nil _ _ _ _ _ | exact Kd.N_nil _ _ _ _ _ | exact Kd.V_nil _ _ _ _ _ | exact Kd.Q_nil _ _ _ _ _ | exact Kd.S_nil _ _ _ _ _⟩, ⟨blk_ext BK14001.out⟩, ⟨below_extB HB.out⟩⟩
  case round =>
   clear H'
   try clear c1
   try clear p2
   try clear c3
   try clear c3b0
   try clear c3b1
   try clear c10
   try clear hcz10_0 hcz10_1 hcz10_2 hcz10_3
   try clear hcz6_0 hcz6_1 hcz6_2 hcz6_3
   try clear hcz8_0 hcz8_1 hcz8_2 hcz8_3
   try clear hfz10_0 hfz10_1 hfz10_2 hfz10_3
   try clear hfz6_0 hfz6_1 hfz6_2 hfz6_3
   try clear hfz8_0 hfz8_1 hfz8_2 hfz8_3
   obtain ⟨x4_1, x18_1, rfl, HA, HK1, HO_4, BK14001, HB⟩ := hrel
   cases gk with
   | zero => exact absurd HA.out (by simp [goods_Format.l0])
   | succ k1 =>
    have H := HA.out
    clear HA
    simp only [goods_Format.l0] at H
    by_cases c11 : x18_1 < (l0_1.length : Int)
    ·
     rw [if_pos c11] at H
     have c11b0 : decide (x18_1 < (l0_1.length : Int)) = true := decide_eq_true c11
     clear c11
     replace H := if_some H; obtain ⟨c12, H⟩ := H
     have c12b0 : decide (0 ≤ x18_1) = true := decide_eq_true c12
     clear c12
     replace H := if_some H; obtain ⟨c13, H⟩ := H
     have c13b0 : decide (x18_1 < (l0_1.length : Int)) = true := decide_eq_true c13
     clear c13
     replace H := if_some H; obtain ⟨c14, H⟩ := H
     have c14b0 := eq_true c14
     have c14b1 : decide (((rd_T36 l0_1 x18_1).f0).size + 1 ≤ 9223372036854775807) = true := decide_eq_true c14
     try have c14b2 : (9223372036854775807 < ((rd_T36 l0_1 x18_1).f0).size + 1) = False := eq_false (Nat.not_lt.2 c14)
     replace H := Option.bind_eq_some_iff.mp H
     obtain ⟨t14006, A150, H⟩ := H
     try dsimp only at H
     have A15 := Aside0.mk A150
     clear A150
     replace H := if_some H; obtain ⟨c16, H⟩ := H
     have c16b0 := eq_true c16
     have c16b1 : decide ((((rd_T36 l0_1 x18_1).f0) ++ (⟨#[58]⟩ : ByteArray)).size + t14006.size ≤ 9223372036854775807) = true := decide_eq_true c16
     try have c16b2 : (9223372036854775807 < (((rd_T36 l0_1 x18_1).f0) ++ (⟨#[58]⟩ : ByteArray)).size + t14006.size) = False := eq_false (Nat.not_lt.2 c16)
     (try (have c16b3 := c16b2; simp only [ByteArray.size_append, show ∀ b : UInt8, (⟨#[b]⟩ : ByteArray).size = 1 from fun _ => rfl] at c16b3))
     (try (have c16b4 := c16b2; simp only [ByteArray.size_append, show ∀ b : UInt8, (⟨#[b]⟩ : ByteArray).size = 1 from fun _ => rfl, show ∀ b c d : UInt8, (⟨#[b, c, d]⟩ : ByteArray).size = 3 from fun _ _ _ => rfl] at c16b4))
     replace H := if_some H; obtain ⟨c17, H⟩ := H
     have LMc17 := Aside0.mk c17
     clear c17
     obtain ⟨y14007, hy14007⟩ : ∃ y_ : List ByteArray, y_ = (x4_1 ++ [(((rd_T36 l0_1 x18_1).f0) ++ (⟨#[58]⟩ : ByteArray)) ++ t14006]) := ⟨_, rfl⟩
     replace H : (goods_Format.l0 k1 t14003 y14007 l0_1 (l0_1.length : Int) (wrap64 (x18_1 + 1)) l0_0 l0_1 l0_2 a0_3) = some r := by first | (rw [hy14007]; with_reducible exact H) | (have H2_ := (Option.bind_some _ _).symm.trans H; rw [hy14007]; with_reducible exact H2_) | (have H2_ := (Option.bind_some _ _).symm.trans H; with_reducible exact H2_) | with_reducible exact H | (rw [hy14007]; exact H) | exact H
     have Ny14007 := Aside0.mk hy14007
     clear hy14007
     have H' := Aside0.mk H
     clear H
     have p14004 : 0 ≤ (x18_1 : Int) := odt
     have q14004 : x18_1 < (l0_1.length : Int) := odt
     obtain ⟨ad14004, e14004, hx14004_0, hx14004_1⟩ := at_T36 HR0_1.out x18_1 p14004 q14004
     cases e14004
     (try replace hx14004_0 := (HB.out.cell (World.block_lt_of_cell? w _ hx14004_0)).trans hx14004_0)
     (try replace hx14004_1 := (HB.out.cell (World.block_lt_of_cell? w _ hx14004_1)).trans hx14004_1)
     replace p14004 := eq_true p14004
     replace q14004 := eq_true q14004
     try go_wp2_with (first | ((with_reducible refine gate_dst (N := 6) rfl ?_); refine box_event ?hg (N := 6) ?hd (cs := #[.string (⟨#[]⟩ : ByteArray), .int .i64 0]) (t := 36) ?hr ?_; (case hd => rfl); (case hg => rfl); (case hr => exact goR); intro gb14005 hg w18 hbox hb; have BK14005 := Aside0.mk (hbox); have GW14005 := gwB hg HB; have GE14005 := GW14005; have NB14001_14005 := nbL hg BK14001; have NB14005_14001 := nbR hg BK14001; have GI14005 := GE_.mk GE14005.out; have NI14001_14005 := NE_.mk NB14001_14005.out; have NI14005_14001 := NE_.mk NB14005_14001.out; replace HO_4 := mvR HO_4 hb; replace BK14001 := mvB BK14001 hb; replace HB := mvH HB hb; clear hb hbox hg; have hnb19 := NB14005_14001.out; have hnc19 := NB14001_14005.out; obtain ⟨hcz20_0, hcz20_1, hfz20_0, hfz20_1⟩ := bk2 BK14005.out))
     (try simp only [setCell_drewN])
     have n0_ : Aside0 (Kd.R Kd.string 9 ((w18.setCell ⟨gb14005, 0, none⟩ (.string ((rd_T36 l0_1 x18_1).f0))).setCell ⟨gb14005, 1, none⟩ (.int .i64 ((rd_T36 l0_1 x18_1).f1))) w.heap.size (fun _ => True) u4 x4_1) := ⟨Kd.R_ext (Kd.R_mono (Kd.R_far (p := ⟨gb14005, 1, none⟩) (Kd.R_far (p := ⟨gb14005, 0, none⟩) (Kd.R_types HO_4.out BK14005.out (by decide)) (fun _ hk => hk.2) (.string ((rd_T36 l0_1 x18_1).f0))) (fun _ hk => hk.2) (.int .i64 ((rd_T36 l0_1 x18_1).f1))) (fun _ hk => trivial))⟩
     have n1_ : Aside0 (((w18.setCell ⟨gb14005, 0, none⟩ (.string ((rd_T36 l0_1 x18_1).f0))).setCell ⟨gb14005, 1, none⟩ (.int .i64 ((rd_T36 l0_1 x18_1).f1))).heap[gb14001]? = some (.cells #[.slice A0_0 l0_0.length c0_0, .slice (some ad14004) l0_1.length c0_1, .slice A0_2 l0_2.length c0_2, .bool a0_3] 26 (0, 0))) := ⟨blk_extC BK14001.out⟩
     have n2_ : Aside0 (((w18.setCell ⟨gb14005, 0, none⟩ (.string ((rd_T36 l0_1 x18_1).f0))).setCell ⟨gb14005, 1, none⟩ (.int .i64 ((rd_T36 l0_1 x18_1).f1))).heap[gb14005]? = some (.cells #[.string ((rd_T36 l0_1 x18_1).f0), .int .i64 ((rd_T36 l0_1 x18_1).f1)] 36 (0, 0))) := ⟨by (with_reducible repeat (first | refine blk_drewN ?_ _ | refine blk_drew ?_ | refine blk_alloc ?_ _)); refine blk_put (cs := #[.string ((rd_T36 l0_1 x18_1).f0), .int .i64 0]) ?_ 1 _ rfl; (with_reducible repeat (first | refine blk_drewN ?_ _ | refine blk_drew ?_ | refine blk_alloc ?_ _)); refine blk_put (cs := #[.string (⟨#[]⟩ : ByteArray), .int .i64 0]) ?_ 0 _ rfl; exact blk_ext BK14005.out⟩
     have n3_ : Aside0 (Below w.heap.size w ((w18.setCell ⟨gb14005, 0, none⟩ (.string ((rd_T36 l0_1 x18_1).f0))).setCell ⟨gb14005, 1, none⟩ (.int .i64 ((rd_T36 l0_1 x18_1).f1)))) := ⟨below_extB HB.out⟩
     (try clear HO_4)
     (try clear BK14001)
     (try clear BK14005)
     (try clear HB)
     generalize ((w18.setCell ⟨gb14005, 0, none⟩ (.string ((rd_T36 l0_1 x18_1).f0))).setCell ⟨gb14005, 1, none⟩ (.int .i64 ((rd_T36 l0_1 x18_1).f1))) = w21 at n0_ n1_ n2_ n3_ ⊢
     have HO_4 := n0_
     have BK14001 := n1_
     have BK14005 := n2_
     have HB := n3_
     clear n0_ n1_ n2_ n3_
     (try (rw [drewN_self w21]; generalize hq_ : World.drewN w21 _ = w21; have n0_ := Aside0.mk (Kd.R_at hq_ HO_4.out); have n1_ := Aside0.mk (blk_at hq_ BK14001.out); have n2_ := Aside0.mk (blk_at hq_ BK14005.out); have n3_ := Aside0.mk (below_at hq_ HB.out); clear hq_ HO_4 BK14001 BK14005 HB; have HO_4 := n0_; have BK14001 := n1_; have BK14005 := n2_; have HB := n3_; clear n0_ n1_ n2_ n3_))
     replace HO_4 := Aside0.mk (Kd.R_drew HO_4.out)
     replace BK14001 := Aside0.mk (blk_drew BK14001.out)
     replace BK14005 := Aside0.mk (blk_drew BK14005.out)
     replace HB := Aside0.mk (below_drew1 HB.out)
     refine start_ (n := 11) (S := fun w' => w'.cell? ⟨gb14005, 0, none⟩ = some (.string ((rd_T36 l0_1 x18_1).f0)) ∧ w'.cell? ⟨gb14005, 1, none⟩ = some (.int .i64 ((rd_T36 l0_1 x18_1).f1))) (ds := []) #[false, false, false, false, false, false, false, false, false, false, false] (by kernel_rfl) rfl rfl ⟨bc BK14005 0, bc BK14005 1⟩ (fun hHeld => ?_); refine with_tabW goods_Format.tab8 goods_Format.bits8 (fun HT_ HW_ => ?_)
     generalize w21.drew = w22 at HO_4 BK14001 BK14005 HB hHeld ⊢
     refine purE 0 (some 22) HT_ ?_
     refine purE 1 (some 23) HT_ ?_
     refine purE 4 (some 26) HT_ ?_
     refine tkE 2 (some 24) HT_ HW_ hHeld ?_ (hy := by rintro w' ⟨s0, s1⟩; go_simp; with_reducible rfl)
     refine purE 3 (some 25) HT_ ?_
     refine tkE 5 (some 27) HT_ HW_ hHeld ?_ (hy := by rintro w' ⟨s0, s1⟩; go_simp; with_reducible rfl)
     refine oneE 6 (some 28) HT_ (fun K hK => ?_)
     refine goes_ Tryd.func33 (by kernel_rfl) rfl #[.int .i64 ((rd_T36 l0_1 x18_1).f1)] (by rfl) rfl rfl goB ?_
     with_reducible refine (strconv_Itoa_33.calls ((rd_T36 l0_1 x18_1).f1) t14006 _ A15.out ?side1).mono ?_
     (case side1 => exact GL.below HG.out (below_extB HB.out))
     rintro e w23 ⟨rfl, hb⟩
     refine ⟨_, rfl, ?_⟩
     replace BK14005 := Aside0.mk (blk_below (g := gb14005) (o := .cells #[.string ((rd_T36 l0_1 x18_1).f0), .int .i64 ((rd_T36 l0_1 x18_1).f1)] 36 (0, 0)) (blk_ext BK14005.out) hb)
     replace HO_4 := mvR HO_4 hb
     replace BK14001 := mvB BK14001 hb
     replace HB := mvH HB hb
     (try clear hb)
     (try clear hb2)
     (try clear hk)
     (try clear hi)
     refine hK.out _ _ ⟨bc BK14005 0, bc BK14005 1⟩ (fun hHeld => ?_)
     clear hK K
     refine nrmE (some 28) ?_
     refine purE 7 (some 29) HT_ ?_
     refine oneE 8 (some 30) HT_ (fun K hK => ?_)
     refine value_ (w1 := ?_) (v := ?_) (by rfl) rfl ?_ ?_
     rotate_left 2
     ·
      go_simp
      constructor
      ·
       rfl
      ·
       rfl
     refine hK.out _ _ ⟨(blk_cell (blk_alloc BK14005.out _) 0).trans rfl, (blk_cell (blk_alloc BK14005.out _) 1).trans rfl⟩ (fun hHeld => ?_)
     clear hK K
     refine nrmE (some 30) ?_
     refine oneE 9 (some 31) HT_ (fun K hK => ?_)
     refine Kd.R_append_step Kd.string (w0 := w) w.heap.size (by rfl) (.tmp 22) (.tmp 30) 22 9 (.string ⟨#[]⟩) 16 rfl Tryd.underlying22 info9 rfl (by decide) (by omega) u4 x4_1 ((((rd_T36 l0_1 x18_1).f0) ++ (⟨#[58]⟩ : ByteArray)) ++ t14006) [.string ((((rd_T36 l0_1 x18_1).f0) ++ (⟨#[58]⟩ : ByteArray)) ++ t14006)] (fun _ => True) (fun _ => False) rfl rfl ?aP (fun _ hk => hk.elim) ?aF ?aO ?aB ?aS ?aL ?_
     (case aP => exact rfl)
     (case aB => exact (below_extB HB.out))
     (case aF => exact (fun _ _ => trivial))
     (case aO => exact (Kd.R_ext HO_4.out))
     (case aS => exact (below_size (below_extB HB.out)))
     (case aL => have := LMc17.out; omega)
     intro v14008 w24 ho hb hg hat
     rw [← Ny14007.out] at ho
     replace BK14001 := Aside0.mk (blk_grown (g := gb14001) (o := .cells #[.slice A0_0 l0_0.length c0_0, .slice (some ad14004) l0_1.length c0_1, .slice A0_2 l0_2.length c0_2, .bool a0_3] 26 (0, 0)) (blk_ext BK14001.out) hg (Kd.R_ne HO_4.out BK14001.out (by decide)))
     replace BK14005 := Aside0.mk (blk_grown (g := gb14005) (o := .cells #[.string ((rd_T36 l0_1 x18_1).f0), .int .i64 ((rd_T36 l0_1 x18_1).f1)] 36 (0, 0)) (blk_ext BK14005.out) hg (Kd.R_ne HO_4.out BK14005.out (by decide)))
     replace HB := Aside0.mk (hb)
     have HO14009 := Aside0.mk (ho)
     clear HO_4
     clear ho hb hg hat
     refine hK.out _ _ ⟨bc BK14005 0, bc BK14005 1⟩ (fun hHeld => ?_)
     clear hK K
     refine nrmE (some 31) ?_
     refine purE 10 (some 4) HT_ ?_
     refine done_ (done_of HT_.out (by kernel_rfl)) ?_
     try go_wp2
     go_roundg k1
     case measure => have := HK1.out; omega
     case rel => exact ⟨(y14007), (wrap64 (x18_1 + 1)), rls, H', ⟨by have := HK1.out; omega⟩, ⟨Kd.R_ext HO14009.out⟩, ⟨blk_ext BK14001.out⟩, ⟨below_extB HB.out⟩⟩
    ·
     rw [if_neg c11] at H
     have c11b0 : decide (x18_1 < (l0_1.length : Int)) = false := decide_eq_false c11
     clear c11
     have HC25 := Aside0.mk H
     clear H
     obtain ⟨Ao26, co26, eo26⟩ := Kd.R_slice HO_4.out
     subst eo26
     go_upto_if 35 with (fail)
     go_cut [3] (fun v3 wc => ∃ (kq : Nat) (x3_24 : ByteArray), v3 = .string x3_24 ∧ Aside0 (goods_Format.j1 kq x3_24 l0_0 l0_1 l0_2 a0_3 = some r) ∧ Aside0 (kq ≤ k1) ∧ Aside0 (wc.heap[gb14001]? = some (.cells #[(.slice A0_0 l0_0.length c0_0), (.slice A0_1 l0_1.length c0_1), (.slice A0_2 l0_2.length c0_2), .bool a0_3] 26 (0, 0))) ∧ Aside0 (Below w.heap.size w wc))
     case first =>
      have H := HC25.out
      clear HC25
      by_cases c27 : (x4_1.length : Int) > 0
      ·
       rw [if_pos c27] at H
       have c27b0 : decide (0 < (x4_1.length : Int)) = true := decide_eq_true c27
       have c27b1 : decide (0 < x4_1.length) = true := decide_eq_true (by omega)
       have c27b9 : (0 < x4_1.length) = True := eq_true (of_decide_eq_true c27b1)
       clear c27
       (first | rw [c27b0] | (simp only [i64_w, i32_w]; rw [c27b0]) | rw [c27b1] | skip)
       replace H := Option.bind_eq_some_iff.mp H
       obtain ⟨t14010, A280, H⟩ := H
       try dsimp only at H
       have A28 := Aside0.mk A280
       clear A280
       replace H := if_some H; obtain ⟨c29, H⟩ := H
       have c29b0 := eq_true c29
       have c29b1 : decide (3 + t14010.size ≤ 9223372036854775807) = true := decide_eq_true c29
       try have c29b2 : (9223372036854775807 < 3 + t14010.size) = False := eq_false (Nat.not_lt.2 c29)
       replace H := if_some H; obtain ⟨c30, H⟩ := H
       have c30b0 := eq_true c30
       have c30b1 : decide (t14003.size + ((⟨#[32, 109, 58]⟩ : ByteArray) ++ t14010).size ≤ 9223372036854775807) = true := decide_eq_true c30
       try have c30b2 : (9223372036854775807 < t14003.size + ((⟨#[32, 109, 58]⟩ : ByteArray) ++ t14010).size) = False := eq_false (Nat.not_lt.2 c30)
       (try (have c30b3 := c30b2; simp only [ByteArray.size_append, show ∀ b : UInt8, (⟨#[b]⟩ : ByteArray).size = 1 from fun _ => rfl] at c30b3))
       (try (have c30b4 := c30b2; simp only [ByteArray.size_append, show ∀ b : UInt8, (⟨#[b]⟩ : ByteArray).size = 1 from fun _ => rfl, show ∀ b c d : UInt8, (⟨#[b, c, d]⟩ : ByteArray).size = 3 from fun _ _ _ => rfl] at c30b4))
       have H' := Aside0.mk H
       clear H
       go_wp2_with (first | ((with_reducible refine gate_callee (f := 32) rfl ?_); refine goesL_ (some 38) rfl rfl Tryd.func32 (by kernel_rfl) rfl #[.slice Ao26 x4_1.length co26, .string (⟨#[44]⟩ : ByteArray)] rfl goA ?_; (with_reducible refine (strings_Join.calls _ _ x4_1 (⟨#[44]⟩ : ByteArray) t14010 _ ?side1 ?side2 A28.out).mono ?_); (case side1 => exact Kd.C_ext (Kd.R_reads' HO_4.out).2.2); (case side2 => exact (Kd.R_reads' HO_4.out).2.1); rintro e w31 ⟨rfl, hb⟩; refine ⟨_, rfl, ?_⟩; replace HO_4 := mvR HO_4 hb; replace BK14001 := mvB BK14001 hb; replace HB := mvH HB hb; (try clear hb); (try clear hb2); (try clear hk); (try clear hi)))
       go_meet
       case rel => exact ⟨_, (t14003 ++ ((⟨#[32, 109, 58]⟩ : ByteArray) ++ t14010)), rls, H', ⟨by have := HK1.out; first | omega | exact Nat.le_refl _⟩, ⟨blk_ext BK14001.out⟩, ⟨below_extB HB.out⟩⟩
      ·
       rw [if_neg c27] at H
       have c27b0 : decide (0 < (x4_1.length : Int)) = false := decide_eq_false c27
       have c27b1 : decide (0 < x4_1.length) = false := decide_eq_false (by omega)
       have c27b9 : (0 < x4_1.length) = False := eq_false (of_decide_eq_false c27b1)
       clear c27
       (first | rw [c27b0] | (simp only [i64_w, i32_w]; rw [c27b0]) | rw [c27b1] | skip)
       have H' := Aside0.mk H
       clear H
       go_wp2
       go_meet
       case rel => exact ⟨_, (t14003), rls, H', ⟨by have := HK1.out; first | omega | exact Nat.le_refl _⟩, ⟨blk_ext BK14001.out⟩, ⟨below_extB HB.out⟩⟩
     case rest =>
      clear HC25
      try clear c1
      try clear p1
      try clear q1
      try clear hx1
      try clear c2
      try clear p2
      try clear c3
      try clear c3b0
      try clear c3b1
      try clear p6
      try clear c10
      try clear c11
      try clear c11b0
      try clear c12
      try clear c12b0
      try clear c13
      try clear c13b0
      try clear c14
      try clear c14b0
      try clear c14b1
      try clear c14b2
      try clear p14
      try clear q14
      try clear hx14
      try clear c16
      try clear c16b0
      try clear c16b1
      try clear c16b2
      try clear c17
      try clear c19
      try clear c27
      try clear c27b0
      try clear c27b1
      try clear c29
      try clear c29b0
      try clear c29b1
      try clear c29b2
      try clear c30
      try clear c30b0
      try clear c30b1
      try clear c30b2
      try clear hcz10_0 hcz10_1 hcz10_2 hcz10_3
      try clear hcz20_0 hcz20_1
      try clear hcz6_0 hcz6_1 hcz6_2 hcz6_3
      try clear hcz8_0 hcz8_1 hcz8_2 hcz8_3
      try clear hfz10_0 hfz10_1 hfz10_2 hfz10_3
      try clear hfz20_0 hfz20_1
      try clear hfz6_0 hfz6_1 hfz6_2 hfz6_3
      try clear hfz8_0 hfz8_1 hfz8_2 hfz8_3
      try clear hx14004_0
      try clear hx14004_1
      try clear p14004
      try clear p2
      try clear q14004
      obtain ⟨kq, x3_24, rfl, HA, HJ24, BK14001, HB⟩ := hcut
      cases kq with
      | zero => exact absurd HA.out (by simp [goods_Format.j1])
      | succ kj24 =>
       have H := HA.out
       clear HA
       simp only [goods_Format.j1] at H
       have H' := Aside0.mk H
       clear H
       obtain ⟨hcz32_0, hcz32_1, hcz32_2, hcz32_3, hfz32_0, hfz32_1, hfz32_2, hfz32_3⟩ := bk4 BK14001.out
       go_wp2
       go_loopg [4, 44] kj24 (fun kq v4 v44 w' => ∃ (x4_3 : List ByteArray) (x44_3 : Int), v44 = .int .i64 x44_3 ∧ Aside0 (goods_Format.l1 kq x3_24 x4_3 l0_2 (l0_2.length : Int) x44_3 l0_0 l0_1 l0_2 a0_3 = some r) ∧ Aside0 (kq ≤ kj24) ∧ Aside0 (Kd.R Kd.string 9 w' w.heap.size (fun _ => True) v4 x4_3) ∧ Aside0 (w'.heap[gb14001]? = some (.cells #[(.slice A0_0 l0_0.length c0_0), (.slice A0_1 l0_1.length c0_1), (.slice A0_2 l0_2.length c0_2), .bool a0_3] 26 (0, 0))) ∧ Aside0 (Below w.heap.size w w'))
       case atStart => exact ⟨(([] : List ByteArray)), (0), rls, H', ⟨Nat.le_refl _⟩, ⟨by first | exact Kd.R_nil _ _ _ _ _ | exact Kd.N_nil _ _ _ _ _ | exact Kd.V_nil _ _ _ _ _ | exact Kd.Q_nil _ _ _ _ _ | exact Kd.S_nil _ _ _ _ _⟩, ⟨blk_ext BK14001.out⟩, ⟨below_extB HB.out⟩⟩
       case round =>
        clear H'
        try clear c1
        try clear p1
        try clear q1
        try clear hx1
        try clear c2
        try clear p2
        try clear c3
        try clear c3b0
        try clear c3b1
        try clear p6
        try clear c10
        try clear c11
        try clear c11b0
        try clear c12
        try clear c12b0
        try clear c13
        try clear c13b0
        try clear c14
        try clear c14b0
        try clear c14b1
        try clear c14b2
        try clear p14
        try clear q14
        try clear hx14
        try clear c16
        try clear c16b0
        try clear c16b1
        try clear c16b2
        try clear c17
        try clear c19
        try clear c27
        try clear c27b0
        try clear c27b1
        try clear c29
        try clear c29b0
        try clear c29b1
        try clear c29b2
        try clear c30
        try clear c30b0
        try clear c30b1
        try clear c30b2
        try clear c32
        try clear hcz10_0 hcz10_1 hcz10_2 hcz10_3
        try clear hcz20_0 hcz20_1
        try clear hcz32_0 hcz32_1 hcz32_2 hcz32_3
        try clear hcz6_0 hcz6_1 hcz6_2 hcz6_3
        try clear hcz8_0 hcz8_1 hcz8_2 hcz8_3
        try clear hfz10_0 hfz10_1 hfz10_2 hfz10_3
        try clear hfz20_0 hfz20_1
        try clear hfz32_0 hfz32_1 hfz32_2 hfz32_3
        try clear hfz6_0 hfz6_1 hfz6_2 hfz6_3
        try clear hfz8_0 hfz8_1 hfz8_2 hfz8_3
        try clear hx14004_0
        try clear hx14004_1
        try clear p1
        try clear p14
        try clear p14004
        try clear p2
        try clear p6
        try clear q1
        try clear q14
        try clear q14004
        obtain ⟨x4_3, x44_3, rfl, HA, HK3, HO_4, BK14001, HB⟩ := hrel
        cases gk with
        | zero => exact absurd HA.out (by simp [goods_Format.l1])
        | succ k3 =>
         have H := HA.out
         clear HA
         simp only [goods_Format.l1] at H
         by_cases c33 : x44_3 < (l0_2.length : Int)
         ·
          rw [if_pos c33] at H
          have c33b0 : decide (x44_3 < (l0_2.length : Int)) = true := decide_eq_true c33
          clear c33
          replace H := if_some H; obtain ⟨c34, H⟩ := H
          have c34b0 : decide (0 ≤ x44_3) = true := decide_eq_true c34
          clear c34
          replace H := if_some H; obtain ⟨c35, H⟩ := H
          have c35b0 : decide (x44_3 < (l0_2.length : Int)) = true := decide_eq_true c35
          clear c35
          replace H := Option.bind_eq_some_iff.mp H
          obtain ⟨t14013, A360, H⟩ := H
          try dsimp only at H
          have A36 := Aside0.mk A360
          clear A360
          replace H := if_some H; obtain ⟨c37, H⟩ := H
          have c37b0 := eq_true c37
          have c37b1 : decide (t14013.size + 1 ≤ 9223372036854775807) = true := decide_eq_true c37
          try have c37b2 : (9223372036854775807 < t14013.size + 1) = False := eq_false (Nat.not_lt.2 c37)
          replace H := Option.bind_eq_some_iff.mp H
          obtain ⟨t14014, A380, H⟩ := H
          try dsimp only at H
          have A38 := Aside0.mk A380
          clear A380
          replace H := if_some H; obtain ⟨c39, H⟩ := H
          have c39b0 := eq_true c39
          have c39b1 : decide ((t14013 ++ (⟨#[58]⟩ : ByteArray)).size + t14014.size ≤ 9223372036854775807) = true := decide_eq_true c39
          try have c39b2 : (9223372036854775807 < (t14013 ++ (⟨#[58]⟩ : ByteArray)).size + t14014.size) = False := eq_false (Nat.not_lt.2 c39)
          (try (have c39b3 := c39b2; simp only [ByteArray.size_append, show ∀ b : UInt8, (⟨#[b]⟩ : ByteArray).size = 1 from fun _ => rfl] at c39b3))
          (try (have c39b4 := c39b2; simp only [ByteArray.size_append, show ∀ b : UInt8, (⟨#[b]⟩ : ByteArray).size = 1 from fun _ => rfl, show ∀ b c d : UInt8, (⟨#[b, c, d]⟩ : ByteArray).size = 3 from fun _ _ _ => rfl] at c39b4))
          replace H := if_some H; obtain ⟨c40, H⟩ := H
          have LMc40 := Aside0.mk c40
          clear c40
          obtain ⟨y14015, hy14015⟩ : ∃ y_ : List ByteArray, y_ = (x4_3 ++ [(t14013 ++ (⟨#[58]⟩ : ByteArray)) ++ t14014]) := ⟨_, rfl⟩
          replace H : (goods_Format.l1 k3 x3_24 y14015 l0_2 (l0_2.length : Int) (wrap64 (x44_3 + 1)) l0_0 l0_1 l0_2 a0_3) = some r := by first | (rw [hy14015]; with_reducible exact H) | (have H2_ := (Option.bind_some _ _).symm.trans H; rw [hy14015]; with_reducible exact H2_) | (have H2_ := (Option.bind_some _ _).symm.trans H; with_reducible exact H2_) | with_reducible exact H | (rw [hy14015]; exact H) | exact H
          have Ny14015 := Aside0.mk hy14015
          clear hy14015
          have H' := Aside0.mk H
          clear H
          have p14011 : 0 ≤ (x44_3 : Int) := odt
          have q14011 : x44_3 < (l0_2.length : Int) := odt
          obtain ⟨ad14011, A14011_0, c14011_0, e14011, hx14011_0, hx14011_1, hl14011_0, hi14011_0⟩ := at_T38 HR0_2.out x44_3 p14011 q14011
          cases e14011
          (try replace hx14011_0 := (HB.out.cell (World.block_lt_of_cell? w _ hx14011_0)).trans hx14011_0)
          (try replace hx14011_1 := (HB.out.cell (World.block_lt_of_cell? w _ hx14011_1)).trans hx14011_1)
          have HR14011_0 := Aside0.mk hi14011_0
          have HC14011_0 := Aside0.mk hl14011_0
          clear hi14011_0 hl14011_0
          replace p14011 := eq_true p14011
          replace q14011 := eq_true q14011
          try go_wp2_with (first | ((with_reducible refine gate_dst (N := 8) rfl ?_); refine box_event ?hg (N := 8) ?hd (cs := #[.slice none 0 0, .int .i64 0]) (t := 38) ?hr ?_; (case hd => rfl); (case hg => rfl); (case hr => exact goR); intro gb14012 hg w41 hbox hb; have BK14012 := Aside0.mk (hbox); have GW14012 := gwB hg HB; have GE14012 := GW14012; have NB14001_14012 := nbL hg BK14001; have NB14012_14001 := nbR hg BK14001; have GI14012 := GE_.mk GE14012.out; have NI14001_14012 := NE_.mk NB14001_14012.out; have NI14012_14001 := NE_.mk NB14012_14001.out; replace HO_4 := mvR HO_4 hb; replace BK14001 := mvB BK14001 hb; replace HB := mvH HB hb; clear hb hbox hg; have hnb42 := NB14012_14001.out; have hnc42 := NB14001_14012.out; obtain ⟨hcz43_0, hcz43_1, hfz43_0, hfz43_1⟩ := bk2 BK14012.out))
          (try simp only [setCell_drewN])
          have n0_ : Aside0 (Kd.R Kd.string 9 ((w41.setCell ⟨gb14012, 0, none⟩ (.slice A14011_0 ((rd_T38 l0_2 x44_3).f0).length c14011_0)).setCell ⟨gb14012, 1, none⟩ (.int .i64 ((rd_T38 l0_2 x44_3).f1))) w.heap.size (fun _ => True) u4 x4_3) := ⟨Kd.R_ext (Kd.R_mono (Kd.R_far (p := ⟨gb14012, 1, none⟩) (Kd.R_far (p := ⟨gb14012, 0, none⟩) (Kd.R_types HO_4.out BK14012.out (by decide)) (fun _ hk => hk.2) (.slice A14011_0 ((rd_T38 l0_2 x44_3).f0).length c14011_0)) (fun _ hk => hk.2) (.int .i64 ((rd_T38 l0_2 x44_3).f1))) (fun _ hk => trivial))⟩
          have n1_ : Aside0 (((w41.setCell ⟨gb14012, 0, none⟩ (.slice A14011_0 ((rd_T38 l0_2 x44_3).f0).length c14011_0)).setCell ⟨gb14012, 1, none⟩ (.int .i64 ((rd_T38 l0_2 x44_3).f1))).heap[gb14001]? = some (.cells #[.slice A0_0 l0_0.length c0_0, .slice A0_1 l0_1.length c0_1, .slice (some ad14011) l0_2.length c0_2, .bool a0_3] 26 (0, 0))) := ⟨blk_extC BK14001.out⟩
          have n2_ : Aside0 (((w41.setCell ⟨gb14012, 0, none⟩ (.slice A14011_0 ((rd_T38 l0_2 x44_3).f0).length c14011_0)).setCell ⟨gb14012, 1, none⟩ (.int .i64 ((rd_T38 l0_2 x44_3).f1))).heap[gb14012]? = some (.cells #[.slice A14011_0 ((rd_T38 l0_2 x44_3).f0).length c14011_0, .int .i64 ((rd_T38 l0_2 x44_3).f1)] 38 (0, 0))) := ⟨by (with_reducible repeat (first | refine blk_drewN ?_ _ | refine blk_drew ?_ | refine blk_alloc ?_ _)); refine blk_put (cs := #[.slice A14011_0 ((rd_T38 l0_2 x44_3).f0).length c14011_0, .int .i64 0]) ?_ 1 _ rfl; (with_reducible repeat (first | refine blk_drewN ?_ _ | refine blk_drew ?_ | refine blk_alloc ?_ _)); refine blk_put (cs := #[.slice none 0 0, .int .i64 0]) ?_ 0 _ rfl; exact blk_ext BK14012.out⟩
          have n3_ : Aside0 (Below w.heap.size w ((w41.setCell ⟨gb14012, 0, none⟩ (.slice A14011_0 ((rd_T38 l0_2 x44_3).f0).length c14011_0)).setCell ⟨gb14012, 1, none⟩ (.int .i64 ((rd_T38 l0_2 x44_3).f1)))) := ⟨below_extB HB.out⟩
          (try clear HO_4)
          (try clear BK14001)
          (try clear BK14012)
          (try clear HB)
          generalize ((w41.setCell ⟨gb14012, 0, none⟩ (.slice A14011_0 ((rd_T38 l0_2 x44_3).f0).length c14011_0)).setCell ⟨gb14012, 1, none⟩ (.int .i64 ((rd_T38 l0_2 x44_3).f1))) = w44 at n0_ n1_ n2_ n3_ ⊢
          have HO_4 := n0_
          have BK14001 := n1_
          have BK14012 := n2_
          have HB := n3_
          clear n0_ n1_ n2_ n3_
          (try (rw [drewN_self w44]; generalize hq_ : World.drewN w44 _ = w44; have n0_ := Aside0.mk (Kd.R_at hq_ HO_4.out); have n1_ := Aside0.mk (blk_at hq_ BK14001.out); have n2_ := Aside0.mk (blk_at hq_ BK14012.out); have n3_ := Aside0.mk (below_at hq_ HB.out); clear hq_ HO_4 BK14001 BK14012 HB; have HO_4 := n0_; have BK14001 := n1_; have BK14012 := n2_; have HB := n3_; clear n0_ n1_ n2_ n3_))
          replace HO_4 := Aside0.mk (Kd.R_drew HO_4.out)
          replace BK14001 := Aside0.mk (blk_drew BK14001.out)
          replace BK14012 := Aside0.mk (blk_drew BK14012.out)
          replace HB := Aside0.mk (below_drew1 HB.out)
          refine start_ (n := 12) (S := fun w' => w'.cell? ⟨gb14012, 0, none⟩ = some (.slice A14011_0 ((rd_T38 l0_2 x44_3).f0).length c14011_0) ∧ w'.cell? ⟨gb14012, 1, none⟩ = some (.int .i64 ((rd_T38 l0_2 x44_3).f1))) (ds := []) #[false, false, false, false, false, false, false, false, false, false, false, false] (by kernel_rfl) rfl rfl ⟨bc BK14012 0, bc BK14012 1⟩ (fun hHeld => ?_); refine with_tabW goods_Format.tab16 goods_Format.bits16 (fun HT_ HW_ => ?_)
          generalize w44.drew = w45 at HO_4 BK14001 BK14012 HB hHeld ⊢
          refine purE 0 (some 48) HT_ ?_
          refine purE 1 (some 49) HT_ ?_
          refine purE 5 (some 53) HT_ ?_
          refine tkE 2 (some 50) HT_ HW_ hHeld ?_ (hy := by rintro w' ⟨s0, s1⟩; go_simp; with_reducible rfl)
          refine tkE 6 (some 54) HT_ HW_ hHeld ?_ (hy := by rintro w' ⟨s0, s1⟩; go_simp; with_reducible rfl)
          refine oneE 3 (some 51) HT_ (fun K hK => ?_)
          refine goes_ Tryd.func32 (by kernel_rfl) rfl #[.slice A14011_0 ((rd_T38 l0_2 x44_3).f0).length c14011_0, .string (⟨#[43]⟩ : ByteArray)] (by rfl) rfl rfl goB ?_
          with_reducible refine (strings_Join.calls _ _ ((rd_T38 l0_2 x44_3).f0) (⟨#[43]⟩ : ByteArray) t14013 _ ?side1 ?side2 A36.out).mono ?_
          (case side1 => repeat (first | exact (Kd.C_below HR14011_0.out HB.out) | (with_reducible refine Kd.C_alloc ?_ _) | (with_reducible refine Kd.C_drewN ?_ _) | (with_reducible refine Kd.C_drew ?_)))
          (case side2 => exact HC14011_0.out)
          rintro e w46 ⟨rfl, hb⟩
          refine ⟨_, rfl, ?_⟩
          replace BK14012 := Aside0.mk (blk_below (g := gb14012) (o := .cells #[.slice A14011_0 ((rd_T38 l0_2 x44_3).f0).length c14011_0, .int .i64 ((rd_T38 l0_2 x44_3).f1)] 38 (0, 0)) (blk_ext BK14012.out) hb)
          replace HO_4 := mvR HO_4 hb
          replace BK14001 := mvB BK14001 hb
          replace HB := mvH HB hb
          (try clear hb)
          (try clear hb2)
          (try clear hk)
          (try clear hi)
          refine hK.out _ _ ⟨bc BK14012 0, bc BK14012 1⟩ (fun hHeld => ?_)
          clear hK K
          refine nrmE (some 51) ?_
          refine purE 4 (some 52) HT_ ?_
          refine oneE 7 (some 55) HT_ (fun K hK => ?_)
          refine goes_ Tryd.func33 (by kernel_rfl) rfl #[.int .i64 ((rd_T38 l0_2 x44_3).f1)] (by rfl) rfl rfl goB ?_
          with_reducible refine (strconv_Itoa_33.calls ((rd_T38 l0_2 x44_3).f1) t14014 _ A38.out ?side1).mono ?_
          (case side1 => exact GL.below HG.out (below_extB HB.out))
          rintro e w47 ⟨rfl, hb⟩
          refine ⟨_, rfl, ?_⟩
          replace BK14012 := Aside0.mk (blk_below (g := gb14012) (o := .cells #[.slice A14011_0 ((rd_T38 l0_2 x44_3).f0).length c14011_0, .int .i64 ((rd_T38 l0_2 x44_3).f1)] 38 (0, 0)) (blk_ext BK14012.out) hb)
          replace HO_4 := mvR HO_4 hb
          replace BK14001 := mvB BK14001 hb
          replace HB := mvH HB hb
          (try clear hb)
          (try clear hb2)
          (try clear hk)
          (try clear hi)
          refine hK.out _ _ ⟨bc BK14012 0, bc BK14012 1⟩ (fun hHeld => ?_)
          clear hK K
          refine nrmE (some 55) ?_
          refine purE 8 (some 56) HT_ ?_
          refine oneE 9 (some 57) HT_ (fun K hK => ?_)
          refine value_ (w1 := ?_) (v := ?_) (by rfl) rfl ?_ ?_
          rotate_left 2
          ·
           go_simp
           constructor
           ·
            rfl
           ·
            rfl
          refine hK.out _ _ ⟨(blk_cell (blk_alloc BK14012.out _) 0).trans rfl, (blk_cell (blk_alloc BK14012.out _) 1).trans rfl⟩ (fun hHeld => ?_)
          clear hK K
          refine nrmE (some 57) ?_
          refine oneE 10 (some 58) HT_ (fun K hK => ?_)
          refine Kd.R_append_step Kd.string (w0 := w) w.heap.size (by rfl) (.tmp 48) (.tmp 57) 22 9 (.string ⟨#[]⟩) 16 rfl Tryd.underlying22 info9 rfl (by decide) (by omega) u4 x4_3 ((t14013 ++ (⟨#[58]⟩ : ByteArray)) ++ t14014) [.string ((t14013 ++ (⟨#[58]⟩ : ByteArray)) ++ t14014)] (fun _ => True) (fun _ => False) rfl rfl ?aP (fun _ hk => hk.elim) ?aF ?aO ?aB ?aS ?aL ?_
          (case aP => exact rfl)
          (case aB => exact (below_extB HB.out))
          (case aF => exact (fun _ _ => trivial))
          (case aO => exact (Kd.R_ext HO_4.out))
          (case aS => exact (below_size (below_extB HB.out)))
          (case aL => have := LMc40.out; omega)
          intro v14016 w48 ho hb hg hat
          rw [← Ny14015.out] at ho
          replace BK14001 := Aside0.mk (blk_grown (g := gb14001) (o := .cells #[.slice A0_0 l0_0.length c0_0, .slice A0_1 l0_1.length c0_1, .slice (some ad14011) l0_2.length c0_2, .bool a0_3] 26 (0, 0)) (blk_ext BK14001.out) hg (Kd.R_ne HO_4.out BK14001.out (by decide)))
          replace BK14012 := Aside0.mk (blk_grown (g := gb14012) (o := .cells #[.slice A14011_0 ((rd_T38 l0_2 x44_3).f0).length c14011_0, .int .i64 ((rd_T38 l0_2 x44_3).f1)] 38 (0, 0)) (blk_ext BK14012.out) hg (Kd.R_ne HO_4.out BK14012.out (by decide)))
          replace HB := Aside0.mk (hb)
          have HO14017 := Aside0.mk (ho)
          clear HO_4
          clear ho hb hg hat
          refine hK.out _ _ ⟨bc BK14012 0, bc BK14012 1⟩ (fun hHeld => ?_)
          clear hK K
          refine nrmE (some 58) ?_
          refine purE 11 (some 4) HT_ ?_
          refine done_ (done_of HT_.out (by kernel_rfl)) ?_
          try go_wp2
          go_roundg k3
          case measure => have := HK1.out; have := HJ24.out; have := HK3.out; omega
          case rel => exact ⟨(y14015), (wrap64 (x44_3 + 1)), rls, H', ⟨by have := HK1.out; have := HJ24.out; have := HK3.out; omega⟩, ⟨Kd.R_ext HO14017.out⟩, ⟨blk_ext BK14001.out⟩, ⟨below_extB HB.out⟩⟩
         ·
          rw [if_neg c33] at H
          have c33b0 : decide (x44_3 < (l0_2.length : Int)) = false := decide_eq_false c33
          clear c33
          by_cases c49 : (x4_3.length : Int) > 0
          ·
           rw [if_pos c49] at H
           have c49b0 : decide (0 < (x4_3.length : Int)) = true := decide_eq_true c49
           have c49b1 : decide (0 < x4_3.length) = true := decide_eq_true (by omega)
           have c49b9 : (0 < x4_3.length) = True := eq_true (of_decide_eq_true c49b1)
           clear c49
           replace H := Option.bind_eq_some_iff.mp H
           obtain ⟨t14018, A500, H⟩ := H
           try dsimp only at H
           have A50 := Aside0.mk A500
           clear A500
           replace H := if_some H; obtain ⟨c51, H⟩ := H
           have c51b0 := eq_true c51
           have c51b1 : decide (3 + t14018.size ≤ 9223372036854775807) = true := decide_eq_true c51
           try have c51b2 : (9223372036854775807 < 3 + t14018.size) = False := eq_false (Nat.not_lt.2 c51)
           replace H := if_some H; obtain ⟨c52, H⟩ := H
           have c52b0 := eq_true c52
           have c52b1 : decide (x3_24.size + ((⟨#[32, 112, 58]⟩ : ByteArray) ++ t14018).size ≤ 9223372036854775807) = true := decide_eq_true c52
           try have c52b2 : (9223372036854775807 < x3_24.size + ((⟨#[32, 112, 58]⟩ : ByteArray) ++ t14018).size) = False := eq_false (Nat.not_lt.2 c52)
           (try (have c52b3 := c52b2; simp only [ByteArray.size_append, show ∀ b : UInt8, (⟨#[b]⟩ : ByteArray).size = 1 from fun _ => rfl] at c52b3))
           (try (have c52b4 := c52b2; simp only [ByteArray.size_append, show ∀ b : UInt8, (⟨#[b]⟩ : ByteArray).size = 1 from fun _ => rfl, show ∀ b c d : UInt8, (⟨#[b, c, d]⟩ : ByteArray).size = 3 from fun _ _ _ => rfl] at c52b4))
           by_cases c53 : a0_3 = true
           ·
            subst c53
            have H1 : (if (x3_24 ++ ((⟨#[32, 112, 58]⟩ : ByteArray) ++ t14018)).size + 11 ≤ 9223372036854775807 then (some ((x3_24 ++ ((⟨#[32, 112, 58]⟩ : ByteArray) ++ t14018)) ++ (⟨#[32, 105, 110, 99, 111, 109, 112, 108, 101, 116, 101]⟩ : ByteArray))) else (none)) = some r := by rw [if_pos rfl] at H; exact H
            clear H
            have H := H1
            clear H1
            replace H := if_some H; obtain ⟨c54, H⟩ := H
            have c54b0 := eq_true c54
            have c54b1 : decide ((x3_24 ++ ((⟨#[32, 112, 58]⟩ : ByteArray) ++ t14018)).size + 11 ≤ 9223372036854775807) = true := decide_eq_true c54
            try have c54b2 : (9223372036854775807 < (x3_24 ++ ((⟨#[32, 112, 58]⟩ : ByteArray) ++ t14018)).size + 11) = False := eq_false (Nat.not_lt.2 c54)
            (try (have c54b3 := c54b2; simp only [ByteArray.size_append, show ∀ b : UInt8, (⟨#[b]⟩ : ByteArray).size = 1 from fun _ => rfl] at c54b3))
            (try (have c54b4 := c54b2; simp only [ByteArray.size_append, show ∀ b : UInt8, (⟨#[b]⟩ : ByteArray).size = 1 from fun _ => rfl, show ∀ b c d : UInt8, (⟨#[b, c, d]⟩ : ByteArray).size = 3 from fun _ _ _ => rfl] at c54b4))
            obtain rfl := Option.some.inj H
            obtain ⟨Ao55, co55, eo55⟩ := Kd.R_slice HO_4.out
            subst eo55
            go_wp2_with (first | ((with_reducible refine gate_callee (f := 32) rfl ?_); refine goesL_ (some 65) rfl rfl Tryd.func32 (by kernel_rfl) rfl #[.slice Ao55 x4_3.length co55, .string (⟨#[44]⟩ : ByteArray)] rfl goA ?_; (with_reducible refine (strings_Join.calls _ _ x4_3 (⟨#[44]⟩ : ByteArray) t14018 _ ?side1 ?side2 A50.out).mono ?_); (case side1 => exact Kd.C_ext (Kd.R_reads' HO_4.out).2.2); (case side2 => exact (Kd.R_reads' HO_4.out).2.1); rintro e w56 ⟨rfl, hb⟩; refine ⟨_, rfl, ?_⟩; replace HO_4 := mvR HO_4 hb; replace BK14001 := mvB BK14001 hb; replace HB := mvH HB hb; (try clear hb); (try clear hb2); (try clear hk); (try clear hi); obtain ⟨hcz57_0, hcz57_1, hcz57_2, hcz57_3, hfz57_0, hfz57_1, hfz57_2, hfz57_3⟩ := bk4 BK14001.out))
            go_ret
            exact ⟨by first | rfl | (simp [errW_none, errW_some] <;> rfl) | (simp [*, errW_none, errW_some] <;> rfl), below_extB HB.out⟩
           ·
            replace c53 := Bool.eq_false_iff.mpr c53
            subst c53
            have H1 : (some (x3_24 ++ ((⟨#[32, 112, 58]⟩ : ByteArray) ++ t14018))) = some r := by rw [if_neg (show ¬ (false = true) by decide)] at H; exact H
            clear H
            have H := H1
            clear H1
            obtain rfl := Option.some.inj H
            obtain ⟨Ao58, co58, eo58⟩ := Kd.R_slice HO_4.out
            subst eo58
            go_wp2_with (first | ((with_reducible refine gate_callee (f := 32) rfl ?_); refine goesL_ (some 65) rfl rfl Tryd.func32 (by kernel_rfl) rfl #[.slice Ao58 x4_3.length co58, .string (⟨#[44]⟩ : ByteArray)] rfl goA ?_; (with_reducible refine (strings_Join.calls _ _ x4_3 (⟨#[44]⟩ : ByteArray) t14018 _ ?side1 ?side2 A50.out).mono ?_); (case side1 => exact Kd.C_ext (Kd.R_reads' HO_4.out).2.2); (case side2 => exact (Kd.R_reads' HO_4.out).2.1); rintro e w59 ⟨rfl, hb⟩; refine ⟨_, rfl, ?_⟩; replace HO_4 := mvR HO_4 hb; replace BK14001 := mvB BK14001 hb; replace HB := mvH HB hb; (try clear hb); (try clear hb2); (try clear hk); (try clear hi); obtain ⟨hcz60_0, hcz60_1, hcz60_2, hcz60_3, hfz60_0, hfz60_1, hfz60_2, hfz60_3⟩ := bk4 BK14001.out))
            go_ret
            exact ⟨by first | rfl | (simp [errW_none, errW_some] <;> rfl) | (simp [*, errW_none, errW_some] <;> rfl), below_extB HB.out⟩
          ·
           rw [if_neg c49] at H
           have c49b0 : decide (0 < (x4_3.length : Int)) = false := decide_eq_false c49
           have c49b1 : decide (0 < x4_3.length) = false := decide_eq_false (by omega)
           have c49b9 : (0 < x4_3.length) = False := eq_false (of_decide_eq_false c49b1)
           clear c49
           by_cases c61 : a0_3 = true
           ·
            subst c61
            have H1 : (if x3_24.size + 11 ≤ 9223372036854775807 then (some (x3_24 ++ (⟨#[32, 105, 110, 99, 111, 109, 112, 108, 101, 116, 101]⟩ : ByteArray))) else (none)) = some r := by rw [if_pos rfl] at H; exact H
            clear H
            have H := H1
            clear H1
            replace H := if_some H; obtain ⟨c62, H⟩ := H
            have c62b0 := eq_true c62
            have c62b1 : decide (x3_24.size + 11 ≤ 9223372036854775807) = true := decide_eq_true c62
            try have c62b2 : (9223372036854775807 < x3_24.size + 11) = False := eq_false (Nat.not_lt.2 c62)
            obtain rfl := Option.some.inj H
            obtain ⟨Ao63, co63, eo63⟩ := Kd.R_slice HO_4.out
            subst eo63
            obtain ⟨hcz64_0, hcz64_1, hcz64_2, hcz64_3, hfz64_0, hfz64_1, hfz64_2, hfz64_3⟩ := bk4 BK14001.out
            go_wp2
            go_ret
            exact ⟨by first | rfl | (simp [errW_none, errW_some] <;> rfl) | (simp [*, errW_none, errW_some] <;> rfl), below_extB HB.out⟩
           ·
            replace c61 := Bool.eq_false_iff.mpr c61
            subst c61
            have H1 : (some x3_24) = some r := by rw [if_neg (show ¬ (false = true) by decide)] at H; exact H
            clear H
            have H := H1
            clear H1
            obtain rfl := Option.some.inj H
            obtain ⟨Ao65, co65, eo65⟩ := Kd.R_slice HO_4.out
            subst eo65
            obtain ⟨hcz66_0, hcz66_1, hcz66_2, hcz66_3, hfz66_0, hfz66_1, hfz66_2, hfz66_3⟩ := bk4 BK14001.out
            go_wp2
            go_ret
            exact ⟨by first | rfl | (simp [errW_none, errW_some] <;> rfl) | (simp [*, errW_none, errW_some] <;> rfl), below_extB HB.out⟩
 ·
  rw [if_neg c3] at H
  have c3b0 : (t14002 == 0) = false := beq_eq_false_iff_ne.mpr c3
  have c3b1 : (t14002 != 0) = true := bne_iff_ne.mpr c3
  obtain rfl := Option.some.inj H
  go_enter Tryd.func14, Tryd.ntmps14
  go_wp2_with (first | ((with_reducible refine gate_dst (N := 1) rfl ?_); refine box_event ?hg (N := 1) ?hd (cs := #[.slice A0_0 l0_0.length c0_0, .slice A0_1 l0_1.length c0_1, .slice A0_2 l0_2.length c0_2, .bool a0_3]) (t := 26) ?hr ?_; (case hd => rfl); (case hg => rfl); (case hr => exact goR); intro gb14001 hg w67 hbox hb; have BK14001 := Aside0.mk (hbox); have GW14001 := gwE hg HB; have GE14001 := GW14001; have GI14001 := GE_.mk GE14001.out; replace HB := mvH HB hb; clear hb hbox hg; obtain ⟨hcz68_0, hcz68_1, hcz68_2, hcz68_3, hfz68_0, hfz68_1, hfz68_2, hfz68_3⟩ := bk4 BK14001.out) | ((with_reducible refine gate_callee (f := 10) rfl ?_); refine goesL_ (some 10) rfl rfl Tryd.func10 (by kernel_rfl) rfl #[.agg #[.slice A0_0 l0_0.length c0_0, .slice A0_1 l0_1.length c0_1, .slice A0_2 l0_2.length c0_2, .bool a0_3]] rfl goA ?_; (with_reducible refine (goods_Validate.calls k _ _ l0_0 _ _ l0_1 _ _ l0_2 a0_3 t14002 _ ?side1 ?side2 ?side3 ?side4 ?side5 ?side6 A2.out).mono ?_); (case side1 => repeat (first | exact (Kd.C_below HR0_0.out HB.out) | (with_reducible refine Kd.C_alloc ?_ _) | (with_reducible refine Kd.C_drewN ?_ _) | (with_reducible refine Kd.C_drew ?_))); (case side2 => exact HC0_0.out); (case side3 => repeat (first | exact (Kd.C_below HR0_1.out HB.out) | (with_reducible refine Kd.C_alloc ?_ _) | (with_reducible refine Kd.C_drewN ?_ _) | (with_reducible refine Kd.C_drew ?_))); (case side4 => exact HC0_1.out); (case side5 => repeat (first | exact (Kd.C_below HR0_2.out HB.out) | (with_reducible refine Kd.C_alloc ?_ _) | (with_reducible refine Kd.C_drewN ?_ _) | (with_reducible refine Kd.C_drew ?_))); (case side6 => exact HC0_2.out); rintro e w69 ⟨rfl, hb⟩; refine ⟨_, rfl, ?_⟩; replace BK14001 := mvB BK14001 hb; replace HB := mvH HB hb; (try clear hb); (try clear hb2); (try clear hk); (try clear hi)))
  go_ret
  exact ⟨by first | rfl | (simp [errW_none, errW_some] <;> rfl) | (simp [*, errW_none, errW_some] <;> rfl), below_extB HB.out⟩

end Go.Proofs.YtoolggpfgadjlaaDoor.Z
