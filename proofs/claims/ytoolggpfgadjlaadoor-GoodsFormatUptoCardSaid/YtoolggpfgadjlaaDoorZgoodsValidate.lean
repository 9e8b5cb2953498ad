/- Printed: a Go function in plain Lean, and that its call does what it says. Conditions: those each theorem states. -/
import Derived.Test.YtoolggpfgadjlaaDoorZ0
import Derived.Test.YtoolggpfgadjlaaDoorZgoodsword
import Derived.Test.YtoolggpfgadjlaaDoorZgoodswords
import Derived.Test.YtoolggpfgadjlaaDoorZgoodsshares
namespace Go.Proofs.YtoolggpfgadjlaaDoor.Z
open Go.RowKit Go.Proofs.YtoolggpfgadjlaaDoorW.PrintWords Go.Proofs.YtoolggpfgadjlaaDoorW.PrintLast Go.Proofs.YtoolggpfgadjlaaDoorW.PrintMore
attribute [local go_sem high] str_leq str_geq str_gtr   -- strings
attribute [local go_sem] max2_int min2_int max_two min_two max_three min_three max_four min_four   -- for this text's walks alone
set_option linter.unusedVariables false
set_option linter.unusedSimpArgs false

/-! ### goods_Validate: function 10 -/
mutual
def goods_Validate.j0 : Nat → Bool → List ByteArray → List (S36) → List (S38) → Bool → Option (Int)
 | 0, _, _, _, _, _ => none
 | k + 1, x26, x10002000, x10002001, x10002002, x10002003 => if x26 = true then (some 8) else (goods_Validate.l0 k ([] : List Int) x10002001 (x10002001.length : Int) 0 x10002000 x10002001 x10002002 x10002003)
def goods_Validate.l0 : Nat → List Int → List (S36) → Int → Int → List ByteArray → List (S36) → List (S38) → Bool → Option (Int)
 | 0, _, _, _, _, _, _, _, _ => none
 | k + 1, x3, x28, x29, x30, x10002000, x10002001, x10002002, x10002003 => if x30 < x29 then (if 0 ≤ x30 then (if x30 < (x28.length : Int) then ((goods_word.f ((rd_T36 x28 x30).f0)).bind fun t10005 => (if t10005 = true then (if x30 > 0 then (if 0 ≤ (wrap64 (x30 - 1)) then (if (wrap64 (x30 - 1)) < (x10002001.length : Int) then (if ((Op.bytesLess (((rd_T36 x10002001 (wrap64 (x30 - 1))).f0).toList) (((rd_T36 x28 x30).f0).toList)) = true) then (if x3.length < 17592186044416 then (goods_Validate.l0 k (x3 ++ [(rd_T36 x28 x30).f1]) x28 x29 (wrap64 (x30 + 1)) x10002000 x10002001 x10002002 x10002003) else (none)) else (some 1)) else (none)) else (none)) else (if x3.length < 17592186044416 then (goods_Validate.l0 k (x3 ++ [(rd_T36 x28 x30).f1]) x28 x29 (wrap64 (x30 + 1)) x10002000 x10002001 x10002002 x10002003) else (none))) else (some 1))) else (none)) else (none)) else (goods_Validate.l1 k x3 ([] : List Int) x10002002 (x10002002.length : Int) 0)
def goods_Validate.l1 : Nat → List Int → List Int → List (S38) → Int → Int → Option (Int)
 | 0, _, _, _, _, _ => none
 | k + 1, x3, x4, x62, x63, x64 => if x64 < x63 then (if 0 ≤ x64 then (if x64 < (x62.length : Int) then ((goods_words.f k ((rd_T38 x62 x64).f0)).bind fun t10015 => (if t10015 = true then (if x4.length < 17592186044416 then (goods_Validate.l1 k x3 (x4 ++ [(rd_T38 x62 x64).f1]) x62 x63 (wrap64 (x64 + 1))) else (none)) else (some 1))) else (none)) else (none)) else ((goods_shares.f k x3).bind fun bt10019 => ((goods_shares.f k x4).bind fun bt10021 => (if bt10019.1 = true then (goods_Validate.j3 k bt10019.2 bt10021.2 (!bt10021.1)) else (goods_Validate.j3 k bt10019.2 bt10021.2 true))))
def goods_Validate.j3 : Nat → Bool → Bool → Bool → Option (Int)
 | 0, _, _, _ => none
 | k + 1, x10, x12, x93 => if x93 = true then (some 2) else (if x10 = true then (if x12 = true then (some 0) else (some 1)) else (some 1))
end
def goods_Validate.f (k : Nat) (l0_0 : List ByteArray) (l0_1 : List (S36)) (l0_2 : List (S38)) (a0_3 : Bool) : Option (Int) := (goods_words.f k l0_0).bind fun t10002 => (if t10002 = true then (if (l0_1.length : Int) > 8 then (goods_Validate.j0 k true l0_0 l0_1 l0_2 a0_3) else (goods_Validate.j0 k (decide ((l0_2.length : Int) > 6)) l0_0 l0_1 l0_2 a0_3)) else (some 1))
theorem goods_Validate.mono_l : ∀ k, (∀ y0 y1 y2 y3 y4, LeO (goods_Validate.j0 k y0 y1 y2 y3 y4) (goods_Validate.j0 (k + 1) y0 y1 y2 y3 y4)) ∧ (∀ y0 y1 y2 y3 y4 y5 y6 y7, LeO (goods_Validate.l0 k y0 y1 y2 y3 y4 y5 y6 y7) (goods_Validate.l0 (k + 1) y0 y1 y2 y3 y4 y5 y6 y7)) ∧ (∀ y0 y1 y2 y3 y4, LeO (goods_Validate.l1 k y0 y1 y2 y3 y4) (goods_Validate.l1 (k + 1) y0 y1 y2 y3 y4)) ∧ (∀ y0 y1 y2, LeO (goods_Validate.j3 k y0 y1 y2) (goods_Validate.j3 (k + 1) y0 y1 y2))
 | 0 => ⟨fun _ _ _ _ _ r h => by simp [goods_Validate.j0] at h, fun _ _ _ _ _ _ _ _ r h => by simp [goods_Validate.l0] at h, fun _ _ _ _ _ r h => by simp [goods_Validate.l1] at h, fun _ _ _ r h => by simp [goods_Validate.j3] at h⟩
 | k + 1 => by
  obtain ⟨ih0, ih1, ih2, ih3⟩ := goods_Validate.mono_l k
  refine ⟨?_, ?_, ?_, ?_⟩ <;> intros
  all_goals first | unfold goods_Validate.j0 | unfold goods_Validate.l0 | unfold goods_Validate.l1 | unfold goods_Validate.j3
  all_goals repeat' first
   | (with_reducible exact ih0 _ _ _ _ _)
   | (with_reducible exact ih1 _ _ _ _ _ _ _ _)
   | (with_reducible exact ih2 _ _ _ _ _)
   | (with_reducible exact ih3 _ _ _)
   | (with_reducible exact goods_shares.mono _ _)
   | (with_reducible exact goods_words.mono _ _)
   | (with_reducible exact LeO.refl _)
   | (with_reducible exact LeO.none _)
   | (with_reducible refine LeO.ite ?_ ?_)
   | (with_reducible refine LeO.bind ?_ (fun _ => ?_))
   | exact ih0 _ _ _ _ _
   | exact ih1 _ _ _ _ _ _ _ _
   | exact ih2 _ _ _ _ _
   | exact ih3 _ _ _
   | exact goods_shares.mono _ _
   | exact goods_words.mono _ _
   | exact LeO.none _
   | refine LeO.ite ?_ ?_
   | refine LeO.bind ?_ (fun _ => ?_)
theorem goods_Validate.mono : ∀ a0 a1 a2 a3 k, LeO (goods_Validate.f k a0 a1 a2 a3) (goods_Validate.f (k + 1) a0 a1 a2 a3) := by
 intro a0 a1 a2 a3 k
 obtain ⟨ih0, ih1, ih2, ih3⟩ := goods_Validate.mono_l k
 unfold goods_Validate.f
 repeat' first
   | (with_reducible exact ih0 _ _ _ _ _)
   | (with_reducible exact ih1 _ _ _ _ _ _ _ _)
   | (with_reducible exact ih2 _ _ _ _ _)
   | (with_reducible exact ih3 _ _ _)
   | (with_reducible exact goods_shares.mono _ _)
   | (with_reducible exact goods_words.mono _ _)
   | (with_reducible exact LeO.refl _)
   | (with_reducible exact LeO.none _)
   | (with_reducible refine LeO.ite ?_ ?_)
   | (with_reducible refine LeO.bind ?_ (fun _ => ?_))
   | exact ih0 _ _ _ _ _
   | exact ih1 _ _ _ _ _ _ _ _
   | exact ih2 _ _ _ _ _
   | exact ih3 _ _ _
   | exact goods_shares.mono _ _
   | exact goods_words.mono _ _
   | exact LeO.none _
   | refine LeO.ite ?_ ?_
   | refine LeO.bind ?_ (fun _ => ?_)
def goods_Validate.T9 : Bool × List (List Nat × List Nat) := (true, [([], []), ([0], [0]), ([1], [1]), ([2], [2]), ([3, 2], [3]), ([4], [4]), ([5, 4], [4, 5]), ([6, 4, 4], [4, 6]), ([7], [7]), ([8, 7], [7, 8]), ([7], [7]), ([10, 7], [7, 10]), ([7], [7]), ([12, 7], [7, 12]), ([11, 13, 7], [7, 11, 13]), ([14, 7], [7, 14]), ([15, 7], [7, 15]), ([9, 16, 7], [7, 9, 16]), ([7, 17, 4], [4, 7, 17]), ([4, 18], [4, 18])])
def goods_Validate.B9 : List Nat := [0, 1, 3, 7, 15, 31, 63, 127, 255, 511, 255, 1279, 255, 4351, 15615, 31999, 64767, 131071, 262143, 524287]
theorem goods_Validate.tab9 : rtab .any (opsOf Tryd.f10 9) = goods_Validate.T9 := by kernel_rfl
theorem goods_Validate.bits9 : waitsOk goods_Validate.T9.2 goods_Validate.B9 = true := by kernel_rfl
set_option maxHeartbeats 8000000 in
set_option maxRecDepth 100000 in
theorem goods_Validate.calls (k : Nat) (A0_0 : Option Addr) (c0_0 : Nat) (l0_0 : List ByteArray) (A0_1 : Option Addr) (c0_1 : Nat) (l0_1 : List (S36)) (A0_2 : Option Addr) (c0_2 : Nat) (l0_2 : List (S38)) (a0_3 : Bool) (r : Int) (w : World) (hr0_0 : Kd.C Kd.string w A0_0 l0_0.length l0_0) (hc0_0 : l0_0.length ≤ c0_0) (hr0_1 : Kd.C k36 w A0_1 l0_1.length l0_1) (hc0_1 : l0_1.length ≤ c0_1) (hr0_2 : Kd.C k38 w A0_2 l0_2.length l0_2) (hc0_2 : l0_2.length ≤ c0_2) (h : goods_Validate.f k l0_0 l0_1 l0_2 a0_3 = some r) :
  Calls Tryd.prog 10 #[.agg #[.slice A0_0 l0_0.length c0_0, .slice A0_1 l0_1.length c0_1, .slice A0_2 l0_2.length c0_2, .bool a0_3]] w fun e w' => e = .returned (.int .i64 r) ∧ Below w.heap.size w w' := by
 have hu26 := Tryd.underlying26
 have hu36 := Tryd.underlying36
 have hu38 := Tryd.underlying38
 have HR0_0 := Aside0.mk hr0_0
 have HC0_0 := Aside0.mk hc0_0
 clear hr0_0 hc0_0
 have HR0_1 := Aside0.mk hr0_1
 have HC0_1 := Aside0.mk hc0_1
 clear hr0_1 hc0_1
 have HR0_2 := Aside0.mk hr0_2
 have HC0_2 := Aside0.mk hc0_2
 clear hr0_2 hc0_2
 have HB := Aside0.mk (Below.refl w.heap.size w)
 have H : ((goods_words.f k l0_0).bind fun t10002 => (if t10002 = true then (if (l0_1.length : Int) > 8 then (goods_Validate.j0 k true l0_0 l0_1 l0_2 a0_3) else (goods_Validate.j0 k (decide ((l0_2.length : Int) > 6)) l0_0 l0_1 l0_2 a0_3)) else (some 1))) = some r := h
 clear h
 replace H := Option.bind_eq_some_iff.mp H
 obtain ⟨t10002, A20, H⟩ := H
 try dsimp only at H
 have A2 := Aside0.mk A20
 clear A20
 by_cases c3 : t10002 = true
 ·
  subst c3
  have H1 : (if (l0_1.length : Int) > 8 then (goods_Validate.j0 k true l0_0 l0_1 l0_2 a0_3) else (goods_Validate.j0 k (decide ((l0_2.length : Int) > 6)) l0_0 l0_1 l0_2 a0_3)) = some r := by rw [if_pos rfl] at H; exact H
  clear H
  have H := H1
  clear H1
  have HC4 := Aside0.mk H
  clear H
  go_enter Tryd.func10, Tryd.ntmps10
  go_upto_region 3 with (first | ((with_reducible refine gate_dst (N := 1) rfl ?_); (try (refine gate_guard (by rfl) ?_; dsimp only)); refine box_event ?hg (N := 1) ?hd (cs := #[.slice A0_0 l0_0.length c0_0, .slice A0_1 l0_1.length c0_1, .slice A0_2 l0_2.length c0_2, .bool a0_3]) (t := 26) ?hr ?_; (case hd => rfl); (case hg => rfl); (case hr => exact goR); intro gb10001 hg w5 hbox hb; have BK10001 := Aside0.mk (hbox); have GW10001 := gwE hg HB; have GE10001 := GW10001; have GI10001 := GE_.mk GE10001.out; replace HB := mvH HB hb; clear hb hbox hg; obtain ⟨hcz6_0, hcz6_1, hcz6_2, hcz6_3, hfz6_0, hfz6_1, hfz6_2, hfz6_3⟩ := bk4 BK10001.out) | ((with_reducible refine gate_callee (f := 27) rfl ?_); refine goesL_ (some 15) rfl rfl Tryd.func27 (by kernel_rfl) rfl #[.slice A0_0 l0_0.length c0_0] rfl goA ?_; (with_reducible refine (goods_words.calls k _ _ l0_0 true _ ?side1 ?side2 A2.out).mono ?_); (case side1 => repeat (first | exact (Kd.C_below HR0_0.out HB.out) | (with_reducible refine Kd.C_alloc ?_ _) | (with_reducible refine Kd.C_drewN ?_ _) | (with_reducible refine Kd.C_drew ?_))); (case side2 => exact HC0_0.out); rintro e w7 ⟨rfl, hb⟩; refine ⟨_, rfl, ?_⟩; replace BK10001 := mvB BK10001 hb; replace HB := mvH HB hb; (try clear hb); (try clear hb2); (try clear hk); (try clear hi)))
  (try simp only [Act.put, List.setIfInBounds_toArray, List.set_cons_zero, List.set_cons_succ])
  go_cut [26] (fun v26 wc => ∃ (kq : Nat) (x26_3 : Bool), v26 = .bool x26_3 ∧ Aside0 (goods_Validate.j0 kq x26_3 l0_0 l0_1 l0_2 a0_3 = some r) ∧ Aside0 (kq ≤ k) ∧ Aside0 (wc.heap[gb10001]? = some (.cells #[(.slice A0_0 l0_0.length c0_0), (.slice A0_1 l0_1.length c0_1), (.slice A0_2 l0_2.length c0_2), .bool a0_3] 26 (0, 0))) ∧ Aside0 (Below w.heap.size w wc))
  case first =>
   have H := HC4.out
   clear HC4
   by_cases c8 : (l0_1.length : Int) > 8
   ·
    rw [if_pos c8] at H
    have c8b0 : decide (8 < (l0_1.length : Int)) = true := decide_eq_true c8
    have c8b1 : decide (8 < l0_1.length) = true := decide_eq_true (by omega)
    clear c8
    (first | rw [c8b0] | (simp only [i64_w, i32_w]; rw [c8b0]) | rw [c8b1] | skip)
    have H' := Aside0.mk H
    clear H
    obtain ⟨hcz9_0, hcz9_1, hcz9_2, hcz9_3, hfz9_0, hfz9_1, hfz9_2, hfz9_3⟩ := bk4 BK10001.out
    go_wp2
    go_meet
    case rel => exact ⟨_, (true), rls, H', ⟨by first | omega | exact Nat.le_refl _⟩, ⟨blk_ext BK10001.out⟩, ⟨below_extB HB.out⟩⟩
   ·
    rw [if_neg c8] at H
    have c8b0 : decide (8 < (l0_1.length : Int)) = false := decide_eq_false c8
    have c8b1 : decide (8 < l0_1.length) = false := decide_eq_false (by omega)
    clear c8
    (first | rw [c8b0] | (simp only [i64_w, i32_w]; rw [c8b0]) | rw [c8b1] | skip)
    have H' := Aside0.mk H
    clear H
    obtain ⟨hcz10_0, hcz10_1, hcz10_2, hcz10_3, hfz10_0, hfz10_1, hfz10_2, hfz10_3⟩ := bk4 BK10001.out
    go_wp2
    go_meet
    case rel => exact ⟨_, (decide ((l0_2.length : Int) > 6)), rls, H', ⟨by first | omega | exact Nat.le_refl _⟩, ⟨blk_ext BK10001.out⟩, ⟨below_extB HB.out⟩⟩
  case rest =>
   clear HC4
   try clear c1
   try clear c2
   try clear p2
   try clear c3
   try clear c8
   try clear c8b0
   try clear c8b1
   try clear c10
   try clear hcz10_0 hcz10_1 hcz10_2 hcz10_3
   try clear hcz6_0 hcz6_1 hcz6_2 hcz6_3
   try clear hcz9_0 hcz9_1 hcz9_2 hcz9_3
   try clear hfz10_0 hfz10_1 hfz10_2 hfz10_3
   try clear hfz6_0 hfz6_1 hfz6_2 hfz6_3
   try clear hfz9_0 hfz9_1 hfz9_2 hfz9_3
   obtain ⟨kq, x26_3, rfl, HA, HJ3, BK10001, HB⟩ := hcut
   cases kq with
   | zero => exact absurd HA.out (by simp [goods_Validate.j0])
   | succ kj3 =>
    have H := HA.out
    clear HA
    simp only [goods_Validate.j0] at H
    by_cases c11 : x26_3 = true
    ·
     subst c11
     have H1 : (some 8) = some r := by rw [if_pos rfl] at H; exact H
     clear H
     have H := H1
     clear H1
     obtain rfl := Option.some.inj H
     go_wp2
     go_ret
     exact ⟨by first | rfl | (simp [errW_none, errW_some] <;> rfl) | (simp [*, errW_none, errW_some] <;> rfl), below_extB HB.out⟩
    ·
     replace c11 := Bool.eq_false_iff.mpr c11
     subst c11
     have H1 : (goods_Validate.l0 kj3 ([] : List Int) l0_1 (l0_1.length : Int) 0 l0_0 l0_1 l0_2 a0_3) = some r := by rw [if_neg (show ¬ (false = true) by decide)] at H; exact H
     clear H
     have H := H1
     clear H1
     have H' := Aside0.mk H
     clear H
     obtain ⟨hcz12_0, hcz12_1, hcz12_2, hcz12_3, hfz12_0, hfz12_1, hfz12_2, hfz12_3⟩ := bk4 BK10001.out
     go_wp2
     go_loopg [3, 30] kj3 (fun kq v3 v30 w' => ∃ (x3_2 : List Int) (x30_2 : Int), v30 = .int .i64 x30_2 ∧ Aside0 (goods_Validate.l0 kq x3_2 l0_1 (l0_1.length : Int) x30_2 l0_0 l0_1 l0_2 a0_3 = some r) ∧ Aside0 (kq ≤ kj3) ∧ Aside0 (Kd.R (Kd.int .i64) 3 w' w.heap.size (fun _ => True) v3 x3_2) ∧ Aside0 (w'.heap[gb10001]? = some (.cells #[(.slice A0_0 l0_0.length c0_0), (.slice A0_1 l0_1.length c0_1), (.slice A0_2 l0_2.length c0_2), .bool a0_3] 26 (0, 0))) ∧ Aside0 (Below w.heap.size w w'))
     case atStart => exact ⟨(([] : List Int)), (0), rls, H', ⟨Nat.le_refl _⟩, ⟨by first | exact Kd.R_nil _ _ _ _ _ | exact Kd.N_nil _ _ _ _ _ | exact Kd.V_nil _ _ _ _ _ | exact Kd.Q_nil _ _ _ _ _ | exact Kd.S_nil _ _ _ _ _⟩, ⟨blk_ext BK10001.out⟩, ⟨below_extB HB.out⟩⟩
     case round =>
      clear H'
      try clear c1
      try clear c2
      try clear p2
      try clear c3
      try clear c8
      try clear c8b0
      try clear c8b1
      try clear c10
      try clear c11
      try clear hcz10_0 hcz10_1 hcz10_2 hcz10_3
      try clear hcz12_0 hcz12_1 hcz12_2 hcz12_3
      try clear hcz6_0 hcz6_1 hcz6_2 hcz6_3
      try clear hcz9_0 hcz9_1 hcz9_2 hcz9_3
      try clear hfz10_0 hfz10_1 hfz10_2 hfz10_3
      try clear hfz12_0 hfz12_1 hfz12_2 hfz12_3
      try clear hfz6_0 hfz6_1 hfz6_2 hfz6_3
      try clear hfz9_0 hfz9_1 hfz9_2 hfz9_3
      try clear p2
      obtain ⟨x3_2, x30_2, rfl, HA, HK2, HO_3, BK10001, HB⟩ := hrel
      cases gk with
      | zero => exact absurd HA.out (by simp [goods_Validate.l0])
      | succ k2 =>
       have H := HA.out
       clear HA
       simp only [goods_Validate.l0] at H
       by_cases c13 : x30_2 < (l0_1.length : Int)
       ·
        rw [if_pos c13] at H
        have c13b0 : decide (x30_2 < (l0_1.length : Int)) = true := decide_eq_true c13
        clear c13
        replace H := if_some H; obtain ⟨c14, H⟩ := H
        have c14b0 : decide (0 ≤ x30_2) = true := decide_eq_true c14
        clear c14
        replace H := if_some H; obtain ⟨c15, H⟩ := H
        have c15b0 : decide (x30_2 < (l0_1.length : Int)) = true := decide_eq_true c15
        clear c15
        replace H := Option.bind_eq_some_iff.mp H
        obtain ⟨t10005, A160, H⟩ := H
        try dsimp only at H
        have A16 := Aside0.mk A160
        clear A160
        by_cases c17 : t10005 = true
        ·
         subst c17
         have H1 : (if x30_2 > 0 then (if 0 ≤ (wrap64 (x30_2 - 1)) then (if (wrap64 (x30_2 - 1)) < (l0_1.length : Int) then (if ((Op.bytesLess (((rd_T36 l0_1 (wrap64 (x30_2 - 1))).f0).toList) (((rd_T36 l0_1 x30_2).f0).toList)) = true) then (if x3_2.length < 17592186044416 then (goods_Validate.l0 k2 (x3_2 ++ [(rd_T36 l0_1 x30_2).f1]) l0_1 (l0_1.length : Int) (wrap64 (x30_2 + 1)) l0_0 l0_1 l0_2 a0_3) else (none)) else (some 1)) else (none)) else (none)) else (if x3_2.length < 17592186044416 then (goods_Validate.l0 k2 (x3_2 ++ [(rd_T36 l0_1 x30_2).f1]) l0_1 (l0_1.length : Int) (wrap64 (x30_2 + 1)) l0_0 l0_1 l0_2 a0_3) else (none))) = some r := by rw [if_pos rfl] at H; exact H
         clear H
         have H := H1
         clear H1
         by_cases c18 : x30_2 > 0
         ·
          rw [if_pos c18] at H
          have c18b0 : decide (0 < x30_2) = true := decide_eq_true c18
          clear c18
          obtain ⟨ji19, hji19⟩ : ∃ j_ : Int, (wrap64 (x30_2 - 1)) = j_ := ⟨_, rfl⟩
          replace H : (if 0 ≤ (ji19) then (if (ji19) < (l0_1.length : Int) then (if ((Op.bytesLess (((rd_T36 l0_1 (ji19)).f0).toList) (((rd_T36 l0_1 x30_2).f0).toList)) = true) then (if x3_2.length < 17592186044416 then (goods_Validate.l0 k2 (x3_2 ++ [(rd_T36 l0_1 x30_2).f1]) l0_1 (l0_1.length : Int) (wrap64 (x30_2 + 1)) l0_0 l0_1 l0_2 a0_3) else (none)) else (some 1)) else (none)) else (none)) = some r := by first | (rw [hji19] at H; exact H) | (simp only [hji19] at H ⊢; exact H)
          (try rw [hji19] at A16)
          have hji19w : (IntKind.i64.wrap (x30_2 - 1)) = ji19 := (i64_w _).trans hji19
          replace H := if_some H; obtain ⟨c20, H⟩ := H
          have c20b0 : decide (0 ≤ (ji19)) = true := decide_eq_true c20
          clear c20
          replace H := if_some H; obtain ⟨c21, H⟩ := H
          have c21b0 : decide ((ji19) < (l0_1.length : Int)) = true := decide_eq_true c21
          clear c21
          by_cases c22 : ((Op.bytesLess (((rd_T36 l0_1 (ji19)).f0).toList) (((rd_T36 l0_1 x30_2).f0).toList)) = true)
          ·
           rw [if_pos c22] at H
           have c22b0 : (Op.bytesLess (((rd_T36 l0_1 (ji19)).f0).toList) (((rd_T36 l0_1 x30_2).f0).toList)) = true := c22
           clear c22
           replace H := if_some H; obtain ⟨c23, H⟩ := H
           have LMc23 := Aside0.mk c23
           clear c23
           obtain ⟨y10007, hy10007⟩ : ∃ y_ : List Int, y_ = (x3_2 ++ [(rd_T36 l0_1 x30_2).f1]) := ⟨_, rfl⟩
           replace H : (goods_Validate.l0 k2 y10007 l0_1 (l0_1.length : Int) (wrap64 (x30_2 + 1)) l0_0 l0_1 l0_2 a0_3) = some r := by first | (rw [hy10007]; with_reducible exact H) | (have H2_ := (Option.bind_some _ _).symm.trans H; rw [hy10007]; with_reducible exact H2_) | (have H2_ := (Option.bind_some _ _).symm.trans H; with_reducible exact H2_) | with_reducible exact H | (rw [hy10007]; exact H) | exact H
           have Ny10007 := Aside0.mk hy10007
           clear hy10007
           have H' := Aside0.mk H
           clear H
           have p10003 : 0 ≤ (x30_2 : Int) := odt
           have q10003 : x30_2 < (l0_1.length : Int) := odt
           obtain ⟨ad10003, e10003, hx10003_0, hx10003_1⟩ := at_T36 HR0_1.out x30_2 p10003 q10003
           cases e10003
           (try replace hx10003_0 := (HB.out.cell (World.block_lt_of_cell? w _ hx10003_0)).trans hx10003_0)
           (try replace hx10003_1 := (HB.out.cell (World.block_lt_of_cell? w _ hx10003_1)).trans hx10003_1)
           replace p10003 := eq_true p10003
           replace q10003 := eq_true q10003
           try go_wp2_with (first | ((with_reducible refine gate_dst (N := 6) rfl ?_); (try (refine gate_guard (by rfl) ?_; dsimp only)); refine box_event ?hg (N := 6) ?hd (cs := #[.string (⟨#[]⟩ : ByteArray), .int .i64 0]) (t := 36) ?hr ?_; (case hd => rfl); (case hg => rfl); (case hr => exact goR); intro gb10004 hg w24 hbox hb; have BK10004 := Aside0.mk (hbox); have GW10004 := gwB hg HB; have GE10004 := GW10004; have NB10001_10004 := nbL hg BK10001; have NB10004_10001 := nbR hg BK10001; have GI10004 := GE_.mk GE10004.out; have NI10001_10004 := NE_.mk NB10001_10004.out; have NI10004_10001 := NE_.mk NB10004_10001.out; replace HO_3 := mvR HO_3 hb; replace BK10001 := mvB BK10001 hb; replace HB := mvH HB hb; clear hb hbox hg; have hnb25 := NB10004_10001.out; have hnc25 := NB10001_10004.out; obtain ⟨hcz26_0, hcz26_1, hfz26_0, hfz26_1⟩ := bk2 BK10004.out))
           (try simp only [setCell_drewN])
           have n0_ : Aside0 (Kd.R (Kd.int .i64) 3 ((w24.setCell ⟨gb10004, 0, none⟩ (.string ((rd_T36 l0_1 x30_2).f0))).setCell ⟨gb10004, 1, none⟩ (.int .i64 ((rd_T36 l0_1 x30_2).f1))) w.heap.size (fun _ => True) u3 x3_2) := ⟨Kd.R_ext (Kd.R_mono (Kd.R_far (p := ⟨gb10004, 1, none⟩) (Kd.R_far (p := ⟨gb10004, 0, none⟩) (Kd.R_types HO_3.out BK10004.out (by decide)) (fun _ hk => hk.2) (.string ((rd_T36 l0_1 x30_2).f0))) (fun _ hk => hk.2) (.int .i64 ((rd_T36 l0_1 x30_2).f1))) (fun _ hk => trivial))⟩
           have n1_ : Aside0 (((w24.setCell ⟨gb10004, 0, none⟩ (.string ((rd_T36 l0_1 x30_2).f0))).setCell ⟨gb10004, 1, none⟩ (.int .i64 ((rd_T36 l0_1 x30_2).f1))).heap[gb10001]? = some (.cells #[.slice A0_0 l0_0.length c0_0, .slice (some ad10003) l0_1.length c0_1, .slice A0_2 l0_2.length c0_2, .bool a0_3] 26 (0, 0))) := ⟨blk_extC BK10001.out⟩
           have n2_ : Aside0 (((w24.setCell ⟨gb10004, 0, none⟩ (.string ((rd_T36 l0_1 x30_2).f0))).setCell ⟨gb10004, 1, none⟩ (.int .i64 ((rd_T36 l0_1 x30_2).f1))).heap[gb10004]? = some (.cells #[.string ((rd_T36 l0_1 x30_2).f0), .int .i64 ((rd_T36 l0_1 x30_2).f1)] 36 (0, 0))) := ⟨by (with_reducible repeat (first | refine blk_drewN ?_ _ | refine blk_drew ?_ | refine blk_alloc ?_ _)); refine blk_put (cs := #[.string ((rd_T36 l0_1 x30_2).f0), .int .i64 0]) ?_ 1 _ rfl; (with_reducible repeat (first | refine blk_drewN ?_ _ | refine blk_drew ?_ | refine blk_alloc ?_ _)); refine blk_put (cs := #[.string (⟨#[]⟩ : ByteArray), .int .i64 0]) ?_ 0 _ rfl; exact blk_ext BK10004.out⟩
           have n3_ : Aside0 (Below w.heap.size w ((w24.setCell ⟨gb10004, 0, none⟩ (.string ((rd_T36 l0_1 x30_2).f0))).setCell ⟨gb10004, 1, none⟩ (.int .i64 ((rd_T36 l0_1 x30_2).f1)))) := ⟨below_extB HB.out⟩
           (try clear HO_3)
           (try clear BK10001)
           (try clear BK10004)
           (try clear HB)
           generalize ((w24.setCell ⟨gb10004, 0, none⟩ (.string ((rd_T36 l0_1 x30_2).f0))).setCell ⟨gb10004, 1, none⟩ (.int .i64 ((rd_T36 l0_1 x30_2).f1))) = w27 at n0_ n1_ n2_ n3_ ⊢
           have HO_3 := n0_
           have BK10001 := n1_
           have BK10004 := n2_
           have HB := n3_
           clear n0_ n1_ n2_ n3_
           (try (rw [drewN_self w27]; generalize hq_ : World.drewN w27 _ = w27; have n0_ := Aside0.mk (Kd.R_at hq_ HO_3.out); have n1_ := Aside0.mk (blk_at hq_ BK10001.out); have n2_ := Aside0.mk (blk_at hq_ BK10004.out); have n3_ := Aside0.mk (below_at hq_ HB.out); clear hq_ HO_3 BK10001 BK10004 HB; have HO_3 := n0_; have BK10001 := n1_; have BK10004 := n2_; have HB := n3_; clear n0_ n1_ n2_ n3_))
           replace HO_3 := Aside0.mk (Kd.R_drew HO_3.out)
           replace BK10001 := Aside0.mk (blk_drew BK10001.out)
           replace BK10004 := Aside0.mk (blk_drew BK10004.out)
           replace HB := Aside0.mk (below_drew1 HB.out)
           have p10006 : 0 ≤ ((ji19) : Int) := odt
           have q10006 : (ji19) < (l0_1.length : Int) := odt
           obtain ⟨ad10006, e10006, hx10006_0, hx10006_1⟩ := at_T36 HR0_1.out (ji19) p10006 q10006
           have hw10006_1 := hx10006_1
           have hw10006_0 := hx10006_0
           obtain rfl : ad10003 = ad10006 := (by injection e10006)
           (try replace hx10006_0 := (HB.out.cell (World.block_lt_of_cell? w _ hx10006_0)).trans hx10006_0)
           (try replace hx10006_1 := (HB.out.cell (World.block_lt_of_cell? w _ hx10006_1)).trans hx10006_1)
           replace p10006 := eq_true p10006
           replace q10006 := eq_true q10006
           refine start_ (n := 20) (S := fun w' => w'.cell? ⟨gb10004, 0, none⟩ = some (.string ((rd_T36 l0_1 x30_2).f0)) ∧ w'.cell? ⟨gb10004, 1, none⟩ = some (.int .i64 ((rd_T36 l0_1 x30_2).f1)) ∧ w'.cell? ⟨gb10001, 0, none⟩ = some (.slice A0_0 l0_0.length c0_0) ∧ w'.cell? ⟨gb10001, 1, none⟩ = some (.slice (some ad10003) l0_1.length c0_1) ∧ w'.cell? ⟨gb10001, 2, none⟩ = some (.slice A0_2 l0_2.length c0_2) ∧ w'.cell? ⟨gb10001, 3, none⟩ = some (.bool a0_3) ∧ w'.cell? (ad10003.add (((ji19)).toNat * 2)) = some (.string ((rd_T36 l0_1 (ji19)).f0)) ∧ w'.cell? ⟨(ad10003.add (((ji19)).toNat * 2)).block, (ad10003.add (((ji19)).toNat * 2)).off + 1, none⟩ = some (.int .i64 ((rd_T36 l0_1 (ji19)).f1))) (ds := []) #[false, false, false, false, false, false, false, false, false, false, false, false, false, false, false, false, false, false, false, false] (by kernel_rfl) rfl rfl ⟨bc BK10004 0, bc BK10004 1, bc BK10001 0, bc BK10001 1, bc BK10001 2, bc BK10001 3, (by first | exact (HB.out.cell (World.block_lt_of_cell? w _ hw10006_0)).trans hw10006_0 | exact hw10006_0), (by first | exact (HB.out.cell (World.block_lt_of_cell? w _ hw10006_1)).trans hw10006_1 | exact hw10006_1)⟩ (fun hHeld => ?_); refine with_tabW goods_Validate.tab9 goods_Validate.bits9 (fun HT_ HW_ => ?_)
           generalize w27.drew = w28 at HO_3 BK10001 BK10004 HB hx10006_0 hx10006_1 hHeld ⊢
           refine purE 0 (some 35) HT_ ?_
           refine tkE 1 (some 36) HT_ HW_ hHeld ?_ (hy := by rintro w' ⟨s0, s1, s2, s3, s4, s5, s6, s7⟩; go_simp; with_reducible rfl)
           refine oneE 2 (some 37) HT_ (fun K hK => ?_)
           refine goes_ Tryd.func28 (by kernel_rfl) rfl #[.string ((rd_T36 l0_1 x30_2).f0)] (by rfl) rfl rfl goB ?_
           with_reducible refine (goods_word.calls ((rd_T36 l0_1 x30_2).f0) true _ A16.out).mono ?_
           rintro e w29 ⟨rfl, hb⟩
           refine ⟨_, rfl, ?_⟩
           replace BK10004 := Aside0.mk (blk_below (g := gb10004) (o := .cells #[.string ((rd_T36 l0_1 x30_2).f0), .int .i64 ((rd_T36 l0_1 x30_2).f1)] 36 (0, 0)) (blk_ext BK10004.out) hb)
           replace HO_3 := mvR HO_3 hb
           replace BK10001 := mvB BK10001 hb
           replace HB := mvH HB hb
           (try clear hb)
           (try clear hb2)
           (try clear hk)
           (try clear hi)
           refine hK.out _ _ ⟨bc BK10004 0, bc BK10004 1, bc BK10001 0, bc BK10001 1, bc BK10001 2, bc BK10001 3, (by first | exact (HB.out.cell (World.block_lt_of_cell? w _ hw10006_0)).trans hw10006_0 | exact hw10006_0), (by first | exact (HB.out.cell (World.block_lt_of_cell? w _ hw10006_1)).trans hw10006_1 | exact hw10006_1)⟩ (fun hHeld => ?_)
           clear hK K
           refine nrmE (some 37) ?_
           refine purE 3 (some 38) HT_ ?_
           refine purE 4 (some 39) HT_ ?_
           refine purE 5 (some 40) HT_ ?_
           refine purE 6 (some 41) HT_ ?_
           refine purE 7 (some 42) HT_ ?_
           refine purE 8 (some 43) HT_ ?_
           refine purE 10 (some 45) HT_ ?_
           refine purE 12 (some 47) HT_ ?_
           refine purE 13 (some 48) HT_ ?_
           refine tkE 9 (some 44) HT_ HW_ hHeld ?_ (hy := by rintro w' ⟨s0, s1, s2, s3, s4, s5, s6, s7⟩; go_simp; with_reducible rfl)
           refine tkE 11 (some 46) HT_ HW_ hHeld ?_ (hy := by rintro w' ⟨s0, s1, s2, s3, s4, s5, s6, s7⟩; go_simp; with_reducible rfl)
           refine purE 14 (some 49) HT_ ?_
           refine purE 15 (some 50) HT_ ?_
           refine tkE 16 (some 51) HT_ HW_ hHeld ?_ (hy := by rintro w' ⟨s0, s1, s2, s3, s4, s5, s6, s7⟩; go_simp; with_reducible rfl)
           refine purE 17 (some 52) HT_ ?_
           refine purE 18 (some 53) HT_ ?_
           refine purE 19 (some 54) HT_ ?_
           refine done_ (done_of HT_.out (by kernel_rfl)) ?_
           obtain ⟨hcz30_0, hcz30_1, hfz30_0, hfz30_1⟩ := bk2 BK10004.out
           try go_wp2_with (first | ((with_reducible refine gate_builtin (b := .append) (xs := #[.tmp 55, .tmp 58]) rfl ?_); (try (refine gate_guard (by rfl) ?_; dsimp only)); at_builtin; refine Kd.R_append (Kd.int .i64) (w0 := w) w.heap.size rfl (.tmp 55) (.tmp 58) 27 3 (.int .i64 0) 8 rfl Tryd.underlying27 info3 rfl (by decide) (by omega) u3 x3_2 ((rd_T36 l0_1 x30_2).f1) [.int .i64 ((rd_T36 l0_1 x30_2).f1)] (fun _ => True) (fun _ => False) rfl rfl ?aP (fun _ hk => hk.elim) ?aF ?aO ?aB ?aS ?aL ?_; (case aP => exact rfl); (case aB => exact (below_extB HB.out)); (case aF => exact (fun _ _ => trivial)); (case aO => exact (Kd.R_ext HO_3.out)); (case aS => exact (below_size (below_extB HB.out))); (case aL => have := LMc23.out; omega); intro v10008 w31 ho hb hg hat; rw [← Ny10007.out] at ho; replace BK10001 := Aside0.mk (blk_grown (g := gb10001) (o := .cells #[.slice A0_0 l0_0.length c0_0, .slice (some ad10003) l0_1.length c0_1, .slice A0_2 l0_2.length c0_2, .bool a0_3] 26 (0, 0)) (blk_ext BK10001.out) hg (Kd.R_ne HO_3.out BK10001.out (by decide))); replace BK10004 := Aside0.mk (blk_grown (g := gb10004) (o := .cells #[.string ((rd_T36 l0_1 x30_2).f0), .int .i64 ((rd_T36 l0_1 x30_2).f1)] 36 (0, 0)) (blk_ext BK10004.out) hg (Kd.R_ne HO_3.out BK10004.out (by decide))); replace HB := Aside0.mk (hb); have HO10009 := Aside0.mk (ho); clear HO_3; clear ho hb hg hat))
           go_roundg k2
           case measure => have := HJ3.out; have := HK2.out; omega
           case rel => exact ⟨(y10007), (wrap64 (x30_2 + 1)), rls, H', ⟨by have := HJ3.out; have := HK2.out; omega⟩, ⟨Kd.R_ext HO10009.out⟩, ⟨blk_ext BK10001.out⟩, ⟨below_extB HB.out⟩⟩
          ·
           rw [if_neg c22] at H
           have c22b0 : (Op.bytesLess (((rd_T36 l0_1 (ji19)).f0).toList) (((rd_T36 l0_1 x30_2).f0).toList)) = false := by simpa using c22
           clear c22
           obtain rfl := Option.some.inj H
           have p10003 : 0 ≤ (x30_2 : Int) := odt
           have q10003 : x30_2 < (l0_1.length : Int) := odt
           obtain ⟨ad10003, e10003, hx10003_0, hx10003_1⟩ := at_T36 HR0_1.out x30_2 p10003 q10003
           cases e10003
           (try replace hx10003_0 := (HB.out.cell (World.block_lt_of_cell? w _ hx10003_0)).trans hx10003_0)
           (try replace hx10003_1 := (HB.out.cell (World.block_lt_of_cell? w _ hx10003_1)).trans hx10003_1)
           replace p10003 := eq_true p10003
           replace q10003 := eq_true q10003
           try go_wp2_with (first | ((with_reducible refine gate_dst (N := 6) rfl ?_); (try (refine gate_guard (by rfl) ?_; dsimp only)); refine box_event ?hg (N := 6) ?hd (cs := #[.string (⟨#[]⟩ : ByteArray), .int .i64 0]) (t := 36) ?hr ?_; (case hd => rfl); (case hg => rfl); (case hr => exact goR); intro gb10004 hg w32 hbox hb; have BK10004 := Aside0.mk (hbox); have GW10004 := gwB hg HB; have GE10004 := GW10004; have NB10001_10004 := nbL hg BK10001; have NB10004_10001 := nbR hg BK10001; have GI10004 := GE_.mk GE10004.out; have NI10001_10004 := NE_.mk NB10001_10004.out; have NI10004_10001 := NE_.mk NB10004_10001.out; replace HO_3 := mvR HO_3 hb; replace BK10001 := mvB BK10001 hb; replace HB := mvH HB hb; clear hb hbox hg; have hnb33 := NB10004_10001.out; have hnc33 := NB10001_10004.out; obtain ⟨hcz34_0, hcz34_1, hfz34_0, hfz34_1⟩ := bk2 BK10004.out))
           (try simp only [setCell_drewN])
           have n0_ : Aside0 (Kd.R (Kd.int .i64) 3 ((w32.setCell ⟨gb10004, 0, none⟩ (.string ((rd_T36 l0_1 x30_2).f0))).setCell ⟨gb10004, 1, none⟩ (.int .i64 ((rd_T36 l0_1 x30_2).f1))) w.heap.size (fun _ => True) u3 x3_2) := ⟨Kd.R_ext (Kd.R_mono (Kd.R_far (p := ⟨gb10004, 1, none⟩) (Kd.R_far (p := ⟨gb10004, 0, none⟩) (Kd.R_types HO_3.out BK10004.out (by decide)) (fun _ hk => hk.2) (.string ((rd_T36 l0_1 x30_2).f0))) (fun _ hk => hk.2) (.int .i64 ((rd_T36 l0_1 x30_2).f1))) (fun _ hk => trivial))⟩
           have n1_ : Aside0 (((w32.setCell ⟨gb10004, 0, none⟩ (.string ((rd_T36 l0_1 x30_2).f0))).setCell ⟨gb10004, 1, none⟩ (.int .i64 ((rd_T36 l0_1 x30_2).f1))).heap[gb10001]? = some (.cells #[.slice A0_0 l0_0.length c0_0, .slice (some ad10003) l0_1.length c0_1, .slice A0_2 l0_2.length c0_2, .bool a0_3] 26 (0, 0))) := ⟨blk_extC BK10001.out⟩
           have n2_ : Aside0 (((w32.setCell ⟨gb10004, 0, none⟩ (.string ((rd_T36 l0_1 x30_2).f0))).setCell ⟨gb10004, 1, none⟩ (.int .i64 ((rd_T36 l0_1 x30_2).f1))).heap[gb10004]? = some (.cells #[.string ((rd_T36 l0_1 x30_2).f0), .int .i64 ((rd_T36 l0_1 x30_2).f1)] 36 (0, 0))) := ⟨by (with_reducible repeat (first | refine blk_drewN ?_ _ | refine blk_drew ?_ | refine blk_alloc ?_ _)); refine blk_put (cs := #[.string ((rd_T36 l0_1 x30_2).f0), .int .i64 0]) ?_ 1 _ rfl; (with_reducible repeat (first | refine blk_drewN ?_ _ | refine blk_drew ?_ | refine blk_alloc ?_ _)); refine blk_put (cs := #[.string (⟨#[]⟩ : ByteArray), .int .i64 0]) ?_ 0 _ rfl; exact blk_ext BK10004.out⟩
           have n3_ : Aside0 (Below w.heap.size w ((w32.setCell ⟨gb10004, 0, none⟩ (.string ((rd_T36 l0_1 x30_2).f0))).setCell ⟨gb10004, 1, none⟩ (.int .i64 ((rd_T36 l0_1 x30_2).f1)))) := ⟨below_extB HB.out⟩
           (try clear HO_3)
           (try clear BK10001)
           (try clear BK10004)
           (try clear HB)
           generalize ((w32.setCell ⟨gb10004, 0, none⟩ (.string ((rd_T36 l0_1 x30_2).f0))).setCell ⟨gb10004, 1, none⟩ (.int .i64 ((rd_T36 l0_1 x30_2).f1))) = w35 at n0_ n1_ n2_ n3_ ⊢
           have HO_3 := n0_
           have BK10001 := n1_
           have BK10004 := n2_
           have HB := n3_
           clear n0_ n1_ n2_ n3_
           (try (rw [drewN_self w35]; generalize hq_ : World.drewN w35 _ = w35; have n0_ := Aside0.mk (Kd.R_at hq_ HO_3.out); have n1_ := Aside0.mk (blk_at hq_ BK10001.out); have n2_ := Aside0.mk (blk_at hq_ BK10004.out); have n3_ := Aside0.mk (below_at hq_ HB.out); clear hq_ HO_3 BK10001 BK10004 HB; have HO_3 := n0_; have BK10001 := n1_; have BK10004 := n2_; have HB := n3_; clear n0_ n1_ n2_ n3_))
           replace HO_3 := Aside0.mk (Kd.R_drew HO_3.out)
           replace BK10001 := Aside0.mk (blk_drew BK10001.out)
           replace BK10004 := Aside0.mk (blk_drew BK10004.out)
           replace HB := Aside0.mk (below_drew1 HB.out)
           have p10006 : 0 ≤ ((ji19) : Int) := odt
           have q10006 : (ji19) < (l0_1.length : Int) := odt
           obtain ⟨ad10006, e10006, hx10006_0, hx10006_1⟩ := at_T36 HR0_1.out (ji19) p10006 q10006
           have hw10006_1 := hx10006_1
           have hw10006_0 := hx10006_0
           obtain rfl : ad10003 = ad10006 := (by injection e10006)
           (try replace hx10006_0 := (HB.out.cell (World.block_lt_of_cell? w _ hx10006_0)).trans hx10006_0)
           (try replace hx10006_1 := (HB.out.cell (World.block_lt_of_cell? w _ hx10006_1)).trans hx10006_1)
           replace p10006 := eq_true p10006
           replace q10006 := eq_true q10006
           refine start_ (n := 20) (S := fun w' => w'.cell? ⟨gb10004, 0, none⟩ = some (.string ((rd_T36 l0_1 x30_2).f0)) ∧ w'.cell? ⟨gb10004, 1, none⟩ = some (.int .i64 ((rd_T36 l0_1 x30_2).f1)) ∧ w'.cell? ⟨gb10001, 0, none⟩ = some (.slice A0_0 l0_0.length c0_0) ∧ w'.cell? ⟨gb10001, 1, none⟩ = some (.slice (some ad10003) l0_1.length c0_1) ∧ w'.cell? ⟨gb10001, 2, none⟩ = some (.slice A0_2 l0_2.length c0_2) ∧ w'.cell? ⟨gb10001, 3, none⟩ = some (.bool a0_3) ∧ w'.cell? (ad10003.add (((ji19)).toNat * 2)) = some (.string ((rd_T36 l0_1 (ji19)).f0)) ∧ w'.cell? ⟨(ad10003.add (((ji19)).toNat * 2)).block, (ad10003.add (((ji19)).toNat * 2)).off + 1, none⟩ = some (.int .i64 ((rd_T36 l0_1 (ji19)).f1))) (ds := []) #[false, false, false, false, false, false, false, false, false, false, false, false, false, false, false, false, false, false, false, false] (by kernel_rfl) rfl rfl ⟨bc BK10004 0, bc BK10004 1, bc BK10001 0, bc BK10001 1, bc BK10001 2, bc BK10001 3, (by first | exact (HB.out.cell (World.block_lt_of_cell? w _ hw10006_0)).trans hw10006_0 | exact hw10006_0), (by first | exact (HB.out.cell (World.block_lt_of_cell? w _ hw10006_1)).trans hw10006_1 | exact hw10006_1)⟩ (fun hHeld => ?_); refine with_tabW goods_Validate.tab9 goods_Validate.bits9 (fun HT_ HW_ => ?_)
           generalize w35.drew = w36 at HO_3 BK10001 BK10004 HB hx10006_0 hx10006_1 hHeld ⊢
           refine purE 0 (some 35) HT_ ?_
           refine tkE 1 (some 36) HT_ HW_ hHeld ?_ (hy := by rintro w' ⟨s0, s1, s2, s3, s4, s5, s6, s7⟩; go_simp; with_reducible rfl)
           refine oneE 2 (some 37) HT_ (fun K hK => ?_)
           refine goes_ Tryd.func28 (by kernel_rfl) rfl #[.string ((rd_T36 l0_1 x30_2).f0)] (by rfl) rfl rfl goB ?_
           with_reducible refine (goods_word.calls ((rd_T36 l0_1 x30_2).f0) true _ A16.out).mono ?_
           rintro e w37 ⟨rfl, hb⟩
           refine ⟨_, rfl, ?_⟩
           replace BK10004 := Aside0.mk (blk_below (g := gb10004) (o := .cells #[.string ((rd_T36 l0_1 x30_2).f0), .int .i64 ((rd_T36 l0_1 x30_2).f1)] 36 (0, 0)) (blk_ext BK10004.out) hb)
           replace HO_3 := mvR HO_3 hb
           replace BK10001 := mvB BK10001 hb
           replace HB := mvH HB hb
           (try clear hb)
           (try clear hb2)
           (try clear hk)
           (try clear hi)
           refine hK.out _ _ ⟨bc BK10004 0, bc BK10004 1, bc BK10001 0, bc BK10001 1, bc BK10001 2, bc BK10001 3, (by first | exact (HB.out.cell (World.block_lt_of_cell? w _ hw10006_0)).trans hw10006_0 | exact hw10006_0), (by first | exact (HB.out.cell (World.block_lt_of_cell? w _ hw10006_1)).trans hw10006_1 | exact hw10006_1)⟩ (fun hHeld => ?_)
           clear hK K
           refine nrmE (some 37) ?_
           refine purE 3 (some 38) HT_ ?_
           refine purE 4 (some 39) HT_ ?_
           refine purE 5 (some 40) HT_ ?_
           refine purE 6 (some 41) HT_ ?_
           refine purE 7 (some 42) HT_ ?_
           refine purE 8 (some 43) HT_ ?_
           refine purE 10 (some 45) HT_ ?_
           refine purE 12 (some 47) HT_ ?_
           refine purE 13 (some 48) HT_ ?_
           refine tkE 9 (some 44) HT_ HW_ hHeld ?_ (hy := by rintro w' ⟨s0, s1, s2, s3, s4, s5, s6, s7⟩; go_simp; with_reducible rfl)
           refine tkE 11 (some 46) HT_ HW_ hHeld ?_ (hy := by rintro w' ⟨s0, s1, s2, s3, s4, s5, s6, s7⟩; go_simp; with_reducible rfl)
           refine purE 14 (some 49) HT_ ?_
           refine purE 15 (some 50) HT_ ?_
           refine tkE 16 (some 51) HT_ HW_ hHeld ?_ (hy := by rintro w' ⟨s0, s1, s2, s3, s4, s5, s6, s7⟩; go_simp; with_reducible rfl)
           refine purE 17 (some 52) HT_ ?_
           refine purE 18 (some 53) HT_ ?_
           refine purE 19 (some 54) HT_ ?_
           refine done_ (done_of HT_.out (by kernel_rfl)) ?_
           try go_wp2
           go_ret
           exact ⟨by first | rfl | (simp [errW_none, errW_some] <;> rfl) | (simp only [← hji19]; first | rfl | (simp [errW_none, errW_some] <;> rfl)) | (simp [*, errW_none, errW_some] <;> rfl), below_extB HB.out⟩
         ·
          rw [if_neg c18] at H
          have c18b0 : decide (0 < x30_2) = false := decide_eq_false c18
          clear c18
          replace H := if_some H; obtain ⟨c38, H⟩ := H
          have LMc38 := Aside0.mk c38
          clear c38
          obtain ⟨y10010, hy10010⟩ : ∃ y_ : List Int, y_ = (x3_2 ++ [(rd_T36 l0_1 x30_2).f1]) := ⟨_, rfl⟩
          replace H : (goods_Validate.l0 k2 y10010 l0_1 (l0_1.length : Int) (wrap64 (x30_2 + 1)) l0_0 l0_1 l0_2 a0_3) = some r := by first | (rw [hy10010]; with_reducible exact H) | (have H2_ := (Option.bind_some _ _).symm.trans H; rw [hy10010]; with_reducible exact H2_) | (have H2_ := (Option.bind_some _ _).symm.trans H; with_reducible exact H2_) | with_reducible exact H | (rw [hy10010]; exact H) | exact H
          have Ny10010 := Aside0.mk hy10010
          clear hy10010
          have H' := Aside0.mk H
          clear H
          have p10003 : 0 ≤ (x30_2 : Int) := odt
          have q10003 : x30_2 < (l0_1.length : Int) := odt
          obtain ⟨ad10003, e10003, hx10003_0, hx10003_1⟩ := at_T36 HR0_1.out x30_2 p10003 q10003
          cases e10003
          (try replace hx10003_0 := (HB.out.cell (World.block_lt_of_cell? w _ hx10003_0)).trans hx10003_0)
          (try replace hx10003_1 := (HB.out.cell (World.block_lt_of_cell? w _ hx10003_1)).trans hx10003_1)
          replace p10003 := eq_true p10003
          replace q10003 := eq_true q10003
          try go_wp2_with (first | ((with_reducible refine gate_dst (N := 6) rfl ?_); (try (refine gate_guard (by rfl) ?_; dsimp only)); refine box_event ?hg (N := 6) ?hd (cs := #[.string (⟨#[]⟩ : ByteArray), .int .i64 0]) (t := 36) ?hr ?_; (case hd => rfl); (case hg => rfl); (case hr => exact goR); intro gb10004 hg w39 hbox hb; have BK10004 := Aside0.mk (hbox); have GW10004 := gwB hg HB; have GE10004 := GW10004; have NB10001_10004 := nbL hg BK10001; have NB10004_10001 := nbR hg BK10001; have GI10004 := GE_.mk GE10004.out; have NI10001_10004 := NE_.mk NB10001_10004.out; have NI10004_10001 := NE_.mk NB10004_10001.out; replace HO_3 := mvR HO_3 hb; replace BK10001 := mvB BK10001 hb; replace HB := mvH HB hb; clear hb hbox hg; have hnb40 := NB10004_10001.out; have hnc40 := NB10001_10004.out; obtain ⟨hcz41_0, hcz41_1, hfz41_0, hfz41_1⟩ := bk2 BK10004.out))
          (try simp only [setCell_drewN])
          have n0_ : Aside0 (Kd.R (Kd.int .i64) 3 ((w39.setCell ⟨gb10004, 0, none⟩ (.string ((rd_T36 l0_1 x30_2).f0))).setCell ⟨gb10004, 1, none⟩ (.int .i64 ((rd_T36 l0_1 x30_2).f1))) w.heap.size (fun _ => True) u3 x3_2) := ⟨Kd.R_ext (Kd.R_mono (Kd.R_far (p := ⟨gb10004, 1, none⟩) (Kd.R_far (p := ⟨gb10004, 0, none⟩) (Kd.R_types HO_3.out BK10004.out (by decide)) (fun _ hk => hk.2) (.string ((rd_T36 l0_1 x30_2).f0))) (fun _ hk => hk.2) (.int .i64 ((rd_T36 l0_1 x30_2).f1))) (fun _ hk => trivial))⟩
          have n1_ : Aside0 (((w39.setCell ⟨gb10004, 0, none⟩ (.string ((rd_T36 l0_1 x30_2).f0))).setCell ⟨gb10004, 1, none⟩ (.int .i64 ((rd_T36 l0_1 x30_2).f1))).heap[gb10001]? = some (.cells #[.slice A0_0 l0_0.length c0_0, .slice (some ad10003) l0_1.length c0_1, .slice A0_2 l0_2.length c0_2, .bool a0_3] 26 (0, 0))) := ⟨blk_extC BK10001.out⟩
          have n2_ : Aside0 (((w39.setCell ⟨gb10004, 0, none⟩ (.string ((rd_T36 l0_1 x30_2).f0))).setCell ⟨gb10004, 1, none⟩ (.int .i64 ((rd_T36 l0_1 x30_2).f1))).heap[gb10004]? = some (.cells #[.string ((rd_T36 l0_1 x30_2).f0), .int .i64 ((rd_T36 l0_1 x30_2).f1)] 36 (0, 0))) := ⟨by (with_reducible repeat (first | refine blk_drewN ?_ _ | refine blk_drew ?_ | refine blk_alloc ?_ _)); refine blk_put (cs := #[.string ((rd_T36 l0_1 x30_2).f0), .int .i64 0]) ?_ 1 _ rfl; (with_reducible repeat (first | refine blk_drewN ?_ _ | refine blk_drew ?_ | refine blk_alloc ?_ _)); refine blk_put (cs := #[.string (⟨#[]⟩ : ByteArray), .int .i64 0]) ?_ 0 _ rfl; exact blk_ext BK10004.out⟩
          have n3_ : Aside0 (Below w.heap.size w ((w39.setCell ⟨gb10004, 0, none⟩ (.string ((rd_T36 l0_1 x30_2).f0))).setCell ⟨gb10004, 1, none⟩ (.int .i64 ((rd_T36 l0_1 x30_2).f1)))) := ⟨below_extB HB.out⟩
          (try clear HO_3)
          (try clear BK10001)
          (try clear BK10004)
          (try clear HB)
          generalize ((w39.setCell ⟨gb10004, 0, none⟩ (.string ((rd_T36 l0_1 x30_2).f0))).setCell ⟨gb10004, 1, none⟩ (.int .i64 ((rd_T36 l0_1 x30_2).f1))) = w42 at n0_ n1_ n2_ n3_ ⊢
          have HO_3 := n0_
          have BK10001 := n1_
          have BK10004 := n2_
          have HB := n3_
          clear n0_ n1_ n2_ n3_
          (try (rw [drewN_self w42]; generalize hq_ : World.drewN w42 _ = w42; have n0_ := Aside0.mk (Kd.R_at hq_ HO_3.out); have n1_ := Aside0.mk (blk_at hq_ BK10001.out); have n2_ := Aside0.mk (blk_at hq_ BK10004.out); have n3_ := Aside0.mk (below_at hq_ HB.out); clear hq_ HO_3 BK10001 BK10004 HB; have HO_3 := n0_; have BK10001 := n1_; have BK10004 := n2_; have HB := n3_; clear n0_ n1_ n2_ n3_))
          replace HO_3 := Aside0.mk (Kd.R_drew HO_3.out)
          replace BK10001 := Aside0.mk (blk_drew BK10001.out)
          replace BK10004 := Aside0.mk (blk_drew BK10004.out)
          replace HB := Aside0.mk (below_drew1 HB.out)
          refine start_ (n := 20) (S := fun w' => w'.cell? ⟨gb10004, 0, none⟩ = some (.string ((rd_T36 l0_1 x30_2).f0)) ∧ w'.cell? ⟨gb10004, 1, none⟩ = some (.int .i64 ((rd_T36 l0_1 x30_2).f1))) (ds := []) #[false, false, false, false, false, false, false, false, false, false, false, false, false, false, false, false, false, false, false, false] (by kernel_rfl) rfl rfl ⟨bc BK10004 0, bc BK10004 1⟩ (fun hHeld => ?_); refine with_tabW goods_Validate.tab9 goods_Validate.bits9 (fun HT_ HW_ => ?_)
          generalize w42.drew = w43 at HO_3 BK10001 BK10004 HB hHeld ⊢
          refine purE 0 (some 35) HT_ ?_
          refine tkE 1 (some 36) HT_ HW_ hHeld ?_ (hy := by rintro w' ⟨s0, s1⟩; go_simp; with_reducible rfl)
          refine oneE 2 (some 37) HT_ (fun K hK => ?_)
          refine goes_ Tryd.func28 (by kernel_rfl) rfl #[.string ((rd_T36 l0_1 x30_2).f0)] (by rfl) rfl rfl goB ?_
          with_reducible refine (goods_word.calls ((rd_T36 l0_1 x30_2).f0) true _ A16.out).mono ?_
          rintro e w44 ⟨rfl, hb⟩
          refine ⟨_, rfl, ?_⟩
          replace BK10004 := Aside0.mk (blk_below (g := gb10004) (o := .cells #[.string ((rd_T36 l0_1 x30_2).f0), .int .i64 ((rd_T36 l0_1 x30_2).f1)] 36 (0, 0)) (blk_ext BK10004.out) hb)
          replace HO_3 := mvR HO_3 hb
          replace BK10001 := mvB BK10001 hb
          replace HB := mvH HB hb
          (try clear hb)
          (try clear hb2)
          (try clear hk)
          (try clear hi)
          refine hK.out _ _ ⟨bc BK10004 0, bc BK10004 1⟩ (fun hHeld => ?_)
          clear hK K
          refine nrmE (some 37) ?_
          refine purE 3 (some 38) HT_ ?_
          refine purE 4 (some 39) HT_ ?_
          refine purE 5 (some 40) HT_ ?_
          refine purE 6 (some 41) HT_ ?_
          refine purE 7 (some 42) HT_ ?_
          refine purU 8 (some 43) HT_ ?_
          refine purU 9 (some 44) HT_ ?_
          refine purU 10 (some 45) HT_ ?_
          refine purU 11 (some 46) HT_ ?_
          refine purU 12 (some 47) HT_ ?_
          refine purU 13 (some 48) HT_ ?_
          refine purU 14 (some 49) HT_ ?_
          refine purU 15 (some 50) HT_ ?_
          refine purU 16 (some 51) HT_ ?_
          refine purU 17 (some 52) HT_ ?_
          refine purE 18 (some 53) HT_ ?_
          refine purE 19 (some 54) HT_ ?_
          refine done_ (done_of HT_.out (by kernel_rfl)) ?_
          obtain ⟨hcz45_0, hcz45_1, hfz45_0, hfz45_1⟩ := bk2 BK10004.out
          try go_wp2_with (first | ((with_reducible refine gate_builtin (b := .append) (xs := #[.tmp 55, .tmp 58]) rfl ?_); (try (refine gate_guard (by rfl) ?_; dsimp only)); at_builtin; refine Kd.R_append (Kd.int .i64) (w0 := w) w.heap.size rfl (.tmp 55) (.tmp 58) 27 3 (.int .i64 0) 8 rfl Tryd.underlying27 info3 rfl (by decide) (by omega) u3 x3_2 ((rd_T36 l0_1 x30_2).f1) [.int .i64 ((rd_T36 l0_1 x30_2).f1)] (fun _ => True) (fun _ => False) rfl rfl ?aP (fun _ hk => hk.elim) ?aF ?aO ?aB ?aS ?aL ?_; (case aP => exact rfl); (case aB => exact (below_extB HB.out)); (case aF => exact (fun _ _ => trivial)); (case aO => exact (Kd.R_ext HO_3.out)); (case aS => exact (below_size (below_extB HB.out))); (case aL => have := LMc38.out; omega); intro v10011 w46 ho hb hg hat; rw [← Ny10010.out] at ho; replace BK10001 := Aside0.mk (blk_grown (g := gb10001) (o := .cells #[.slice A0_0 l0_0.length c0_0, .slice (some ad10003) l0_1.length c0_1, .slice A0_2 l0_2.length c0_2, .bool a0_3] 26 (0, 0)) (blk_ext BK10001.out) hg (Kd.R_ne HO_3.out BK10001.out (by decide))); replace BK10004 := Aside0.mk (blk_grown (g := gb10004) (o := .cells #[.string ((rd_T36 l0_1 x30_2).f0), .int .i64 ((rd_T36 l0_1 x30_2).f1)] 36 (0, 0)) (blk_ext BK10004.out) hg (Kd.R_ne HO_3.out BK10004.out (by decide))); replace HB := Aside0.mk (hb); have HO10012 := Aside0.mk (ho); clear HO_3; clear ho hb hg hat))
          go_roundg k2
          case measure => have := HJ3.out; have := HK2.out; omega
          case rel => exact ⟨(y10010), (wrap64 (x30_2 + 1)), rls, H', ⟨by have := HJ3.out; have := HK2.out; omega⟩, ⟨Kd.R_ext HO10012.out⟩, ⟨blk_ext BK10001.out⟩, ⟨below_extB HB.out⟩⟩
        ·
         replace c17 := Bool.eq_false_iff.mpr c17
         subst c17
         have H1 : (some 1) = some r := by rw [if_neg (show ¬ (false = true) by decide)] at H; exact H
         clear H
         have H := H1
         clear H1
         obtain rfl := Option.some.inj H
         have p10003 : 0 ≤ (x30_2 : Int) := odt
         have q10003 : x30_2 < (l0_1.length : Int) := odt
         obtain ⟨ad10003, e10003, hx10003_0, hx10003_1⟩ := at_T36 HR0_1.out x30_2 p10003 q10003
         cases e10003
         (try replace hx10003_0 := (HB.out.cell (World.block_lt_of_cell? w _ hx10003_0)).trans hx10003_0)
         (try replace hx10003_1 := (HB.out.cell (World.block_lt_of_cell? w _ hx10003_1)).trans hx10003_1)
         replace p10003 := eq_true p10003
         replace q10003 := eq_true q10003
         try go_wp2_with (first | ((with_reducible refine gate_dst (N := 6) rfl ?_); (try (refine gate_guard (by rfl) ?_; dsimp only)); refine box_event ?hg (N := 6) ?hd (cs := #[.string (⟨#[]⟩ : ByteArray), .int .i64 0]) (t := 36) ?hr ?_; (case hd => rfl); (case hg => rfl); (case hr => exact goR); intro gb10004 hg w47 hbox hb; have BK10004 := Aside0.mk (hbox); have GW10004 := gwB hg HB; have GE10004 := GW10004; have NB10001_10004 := nbL hg BK10001; have NB10004_10001 := nbR hg BK10001; have GI10004 := GE_.mk GE10004.out; have NI10001_10004 := NE_.mk NB10001_10004.out; have NI10004_10001 := NE_.mk NB10004_10001.out; replace HO_3 := mvR HO_3 hb; replace BK10001 := mvB BK10001 hb; replace HB := mvH HB hb; clear hb hbox hg; have hnb48 := NB10004_10001.out; have hnc48 := NB10001_10004.out; obtain ⟨hcz49_0, hcz49_1, hfz49_0, hfz49_1⟩ := bk2 BK10004.out))
         (try simp only [setCell_drewN])
         have n0_ : Aside0 (Kd.R (Kd.int .i64) 3 ((w47.setCell ⟨gb10004, 0, none⟩ (.string ((rd_T36 l0_1 x30_2).f0))).setCell ⟨gb10004, 1, none⟩ (.int .i64 ((rd_T36 l0_1 x30_2).f1))) w.heap.size (fun _ => True) u3 x3_2) := ⟨Kd.R_ext (Kd.R_mono (Kd.R_far (p := ⟨gb10004, 1, none⟩) (Kd.R_far (p := ⟨gb10004, 0, none⟩) (Kd.R_types HO_3.out BK10004.out (by decide)) (fun _ hk => hk.2) (.string ((rd_T36 l0_1 x30_2).f0))) (fun _ hk => hk.2) (.int .i64 ((rd_T36 l0_1 x30_2).f1))) (fun _ hk => trivial))⟩
         have n1_ : Aside0 (((w47.setCell ⟨gb10004, 0, none⟩ (.string ((rd_T36 l0_1 x30_2).f0))).setCell ⟨gb10004, 1, none⟩ (.int .i64 ((rd_T36 l0_1 x30_2).f1))).heap[gb10001]? = some (.cells #[.slice A0_0 l0_0.length c0_0, .slice (some ad10003) l0_1.length c0_1, .slice A0_2 l0_2.length c0_2, .bool a0_3] 26 (0, 0))) := ⟨blk_extC BK10001.out⟩
         have n2_ : Aside0 (((w47.setCell ⟨gb10004, 0, none⟩ (.string ((rd_T36 l0_1 x30_2).f0))).setCell ⟨gb10004, 1, none⟩ (.int .i64 ((rd_T36 l0_1 x30_2).f1))).heap[gb10004]? = some (.cells #[.string ((rd_T36 l0_1 x30_2).f0), .int .i64 ((rd_T36 l0_1 x30_2).f1)] 36 (0, 0))) := ⟨by (with_reducible repeat (first | refine blk_drewN ?_ _ | refine blk_drew ?_ | refine blk_alloc ?_ _)); refine blk_put (cs := #[.string ((rd_T36 l0_1 x30_2).f0), .int .i64 0]) ?_ 1 _ rfl; (with_reducible repeat (first | refine blk_drewN ?_ _ | refine blk_drew ?_ | refine blk_alloc ?_ _)); refine blk_put (cs := #[.string (⟨#[]⟩ : ByteArray), .int .i64 0]) ?_ 0 _ rfl; exact blk_ext BK10004.out⟩
         have n3_ : Aside0 (Below w.heap.size w ((w47.setCell ⟨gb10004, 0, none⟩ (.string ((rd_T36 l0_1 x30_2).f0))).setCell ⟨gb10004, 1, none⟩ (.int .i64 ((rd_T36 l0_1 x30_2).f1)))) := ⟨below_extB HB.out⟩
         (try clear HO_3)
         (try clear BK10001)
         (try clear BK10004)
         (try clear HB)
         generalize ((w47.setCell ⟨gb10004, 0, none⟩ (.string ((rd_T36 l0_1 x30_2).f0))).setCell ⟨gb10004, 1, none⟩ (.int .i64 ((rd_T36 l0_1 x30_2).f1))) = w50 at n0_ n1_ n2_ n3_ ⊢
         have HO_3 := n0_
         have BK10001 := n1_
         have BK10004 := n2_
         have HB := n3_
         clear n0_ n1_ n2_ n3_
         (try (rw [drewN_self w50]; generalize hq_ : World.drewN w50 _ = w50; have n0_ := Aside0.mk (Kd.R_at hq_ HO_3.out); have n1_ := Aside0.mk (blk_at hq_ BK10001.out); have n2_ := Aside0.mk (blk_at hq_ BK10004.out); have n3_ := Aside0.mk (below_at hq_ HB.out); clear hq_ HO_3 BK10001 BK10004 HB; have HO_3 := n0_; have BK10001 := n1_; have BK10004 := n2_; have HB := n3_; clear n0_ n1_ n2_ n3_))
         replace HO_3 := Aside0.mk (Kd.R_drew HO_3.out)
         replace BK10001 := Aside0.mk (blk_drew BK10001.out)
         replace BK10004 := Aside0.mk (blk_drew BK10004.out)
         replace HB := Aside0.mk (below_drew1 HB.out)
         refine start_ (n := 20) (S := fun w' => w'.cell? ⟨gb10004, 0, none⟩ = some (.string ((rd_T36 l0_1 x30_2).f0)) ∧ w'.cell? ⟨gb10004, 1, none⟩ = some (.int .i64 ((rd_T36 l0_1 x30_2).f1))) (ds := []) #[false, false, false, false, false, false, false, false, false, false, false, false, false, false, false, false, false, false, false, false] (by kernel_rfl) rfl rfl ⟨bc BK10004 0, bc BK10004 1⟩ (fun hHeld => ?_); refine with_tabW goods_Validate.tab9 goods_Validate.bits9 (fun HT_ HW_ => ?_)
         generalize w50.drew = w51 at HO_3 BK10001 BK10004 HB hHeld ⊢
         refine purE 0 (some 35) HT_ ?_
         refine tkE 1 (some 36) HT_ HW_ hHeld ?_ (hy := by rintro w' ⟨s0, s1⟩; go_simp; with_reducible rfl)
         refine oneE 2 (some 37) HT_ (fun K hK => ?_)
         refine goes_ Tryd.func28 (by kernel_rfl) rfl #[.string ((rd_T36 l0_1 x30_2).f0)] (by rfl) rfl rfl goB ?_
         with_reducible refine (goods_word.calls ((rd_T36 l0_1 x30_2).f0) false _ A16.out).mono ?_
         rintro e w52 ⟨rfl, hb⟩
         refine ⟨_, rfl, ?_⟩
         replace BK10004 := Aside0.mk (blk_below (g := gb10004) (o := .cells #[.string ((rd_T36 l0_1 x30_2).f0), .int .i64 ((rd_T36 l0_1 x30_2).f1)] 36 (0, 0)) (blk_ext BK10004.out) hb)
         replace HO_3 := mvR HO_3 hb
         replace BK10001 := mvB BK10001 hb
         replace HB := mvH HB hb
         (try clear hb)
         (try clear hb2)
         (try clear hk)
         (try clear hi)
         refine hK.out _ _ ⟨bc BK10004 0, bc BK10004 1⟩ (fun hHeld => ?_)
         clear hK K
         refine nrmE (some 37) ?_
         refine purE 3 (some 38) HT_ ?_
         refine purE 4 (some 39) HT_ ?_
         refine purU 5 (some 40) HT_ ?_
         refine purU 6 (some 41) HT_ ?_
         refine purU 7 (some 42) HT_ ?_
         refine purU 8 (some 43) HT_ ?_
         refine purU 9 (some 44) HT_ ?_
         refine purU 10 (some 45) HT_ ?_
         refine purU 11 (some 46) HT_ ?_
         refine purU 12 (some 47) HT_ ?_
         refine purU 13 (some 48) HT_ ?_
         refine purU 14 (some 49) HT_ ?_
         refine purU 15 (some 50) HT_ ?_
         refine purU 16 (some 51) HT_ ?_
         refine purU 17 (some 52) HT_ ?_
         refine purU 18 (some 53) HT_ ?_
         refine purE 19 (some 54) HT_ ?_
         refine done_ (done_of HT_.out (by kernel_rfl)) ?_
         try go_wp2
         go_ret
         exact ⟨by first | rfl | (simp [errW_none, errW_some] <;> rfl) | (simp [*, errW_none, errW_some] <;> rfl), below_extB HB.out⟩
       ·
        rw [if_neg c13] at H
        have c13b0 : decide (x30_2 < (l0_1.length : Int)) = false := decide_eq_false c13
        clear c13
        have H' := Aside0.mk H
        clear H
        obtain ⟨hcz53_0, hcz53_1, hcz53_2, hcz53_3, hfz53_0, hfz53_1, hfz53_2, hfz53_3⟩ := bk4 BK10001.out
        go_wp2
        go_loopg [4, 64] k2 (fun kq v4 v64 w' => ∃ (x4_3 : List Int) (x64_3 : Int), v64 = .int .i64 x64_3 ∧ Aside0 (goods_Validate.l1 kq x3_2 x4_3 l0_2 (l0_2.length : Int) x64_3 = some r) ∧ Aside0 (kq ≤ k2) ∧ Aside0 (Kd.R (Kd.int .i64) 3 w' w.heap.size (fun k_ => some k_ ≠ (v4 : Value).ownBlock) u3 x3_2) ∧ Aside0 (Kd.R (Kd.int .i64) 3 w' w.heap.size (fun k_ => some k_ ≠ (u3 : Value).ownBlock) v4 x4_3) ∧ Aside0 (Below w.heap.size w w'))
        case atStart => exact ⟨(([] : List Int)), (0), rls, H', ⟨Nat.le_refl _⟩, ⟨Kd.R_ext (Kd.R_mono HO_3.out (fun _ hk => (by simp [Value.ownBlock])))⟩, ⟨by first | exact Kd.R_nil _ _ _ _ _ | exact Kd.N_nil _ _ _ _ _ | exact Kd.V_nil _ _ _ _ _ | exact Kd.Q_nil _ _ _ _ _ | exact Kd.S_nil _ _ _ _ _⟩, ⟨below_extB HB.out⟩⟩
        case round =>
         clear H'
         try clear c1
         try clear p1
         try clear q1
         try clear hx1
         try clear c2
         try clear p2
         try clear c3
         try clear c4
         try clear p6
         try clear p10
         try clear q10
         try clear hx10
         try clear c13
         try clear c13b0
         try clear c14
         try clear c15
         try clear c17
         try clear c18
         try clear c18b0
         try clear c20
         try clear c21
         try clear c28
         try clear c38
         try clear c40
         try clear c48
         try clear hcz41_0 hcz41_1
         try clear hcz45_0 hcz45_1
         try clear hcz49_0 hcz49_1
         try clear hcz53_0 hcz53_1 hcz53_2 hcz53_3
         try clear hfz41_0 hfz41_1
         try clear hfz45_0 hfz45_1
         try clear hfz49_0 hfz49_1
         try clear hfz53_0 hfz53_1 hfz53_2 hfz53_3
         try clear hx10003_0
         try clear hx10003_1
         try clear hx10006_0
         try clear hx10006_1
         try clear p10003
         try clear p10006
         try clear q10003
         try clear q10006
         obtain ⟨x4_3, x64_3, rfl, HA, HK3, HO_3, HO_4, HB⟩ := hrel
         cases gk with
         | zero => exact absurd HA.out (by simp [goods_Validate.l1])
         | succ k3 =>
          have H := HA.out
          clear HA
          simp only [goods_Validate.l1] at H
          by_cases c54 : x64_3 < (l0_2.length : Int)
          ·
           rw [if_pos c54] at H
           have c54b0 : decide (x64_3 < (l0_2.length : Int)) = true := decide_eq_true c54
           clear c54
           replace H := if_some H; obtain ⟨c55, H⟩ := H
           have c55b0 : decide (0 ≤ x64_3) = true := decide_eq_true c55
           clear c55
           replace H := if_some H; obtain ⟨c56, H⟩ := H
           have c56b0 : decide (x64_3 < (l0_2.length : Int)) = true := decide_eq_true c56
           clear c56
           replace H := Option.bind_eq_some_iff.mp H
           obtain ⟨t10015, A570, H⟩ := H
           try dsimp only at H
           have A57 := Aside0.mk A570
           clear A570
           by_cases c58 : t10015 = true
           ·
            subst c58
            have H1 : (if x4_3.length < 17592186044416 then (goods_Validate.l1 k3 x3_2 (x4_3 ++ [(rd_T38 l0_2 x64_3).f1]) l0_2 (l0_2.length : Int) (wrap64 (x64_3 + 1))) else (none)) = some r := by rw [if_pos rfl] at H; exact H
            clear H
            have H := H1
            clear H1
            replace H := if_some H; obtain ⟨c59, H⟩ := H
            have LMc59 := Aside0.mk c59
            clear c59
            obtain ⟨y10016, hy10016⟩ : ∃ y_ : List Int, y_ = (x4_3 ++ [(rd_T38 l0_2 x64_3).f1]) := ⟨_, rfl⟩
            replace H : (goods_Validate.l1 k3 x3_2 y10016 l0_2 (l0_2.length : Int) (wrap64 (x64_3 + 1))) = some r := by first | (rw [hy10016]; with_reducible exact H) | (have H2_ := (Option.bind_some _ _).symm.trans H; rw [hy10016]; with_reducible exact H2_) | (have H2_ := (Option.bind_some _ _).symm.trans H; with_reducible exact H2_) | with_reducible exact H | (rw [hy10016]; exact H) | exact H
            have Ny10016 := Aside0.mk hy10016
            clear hy10016
            have H' := Aside0.mk H
            clear H
            have p10013 : 0 ≤ (x64_3 : Int) := odt
            have q10013 : x64_3 < (l0_2.length : Int) := odt
            obtain ⟨ad10013, A10013_0, c10013_0, e10013, hx10013_0, hx10013_1, hl10013_0, hi10013_0⟩ := at_T38 HR0_2.out x64_3 p10013 q10013
            cases e10013
            (try replace hx10013_0 := (HB.out.cell (World.block_lt_of_cell? w _ hx10013_0)).trans hx10013_0)
            (try replace hx10013_1 := (HB.out.cell (World.block_lt_of_cell? w _ hx10013_1)).trans hx10013_1)
            have HR10013_0 := Aside0.mk hi10013_0
            have HC10013_0 := Aside0.mk hl10013_0
            clear hi10013_0 hl10013_0
            replace p10013 := eq_true p10013
            replace q10013 := eq_true q10013
            go_wp2_with (first | ((with_reducible refine gate_dst (N := 8) rfl ?_); (try (refine gate_guard (by rfl) ?_; dsimp only)); refine box_event ?hg (N := 8) ?hd (cs := #[.slice none 0 0, .int .i64 0]) (t := 38) ?hr ?_; (case hd => rfl); (case hg => rfl); (case hr => exact goR); intro gb10014 hg w60 hbox hb; have BK10014 := Aside0.mk (hbox); have GW10014 := gwE hg HB; have GE10014 := GW10014; have GI10014 := GE_.mk GE10014.out; replace HO_3 := mvR HO_3 hb; replace HO_4 := mvR HO_4 hb; replace HB := mvH HB hb; clear hb hbox hg; obtain ⟨hcz61_0, hcz61_1, hfz61_0, hfz61_1⟩ := bk2 BK10014.out) | ((with_reducible refine gate_callee (f := 27) rfl ?_); refine goesL_ (some 70) rfl rfl Tryd.func27 (by kernel_rfl) rfl #[.slice A10013_0 ((rd_T38 l0_2 x64_3).f0).length c10013_0] rfl goA ?_; (with_reducible refine (goods_words.calls k3 _ _ ((rd_T38 l0_2 x64_3).f0) true _ ?side1 ?side2 A57.out).mono ?_); (case side1 => exact Kd.C_below HR10013_0.out (below_extB HB.out)); (case side2 => exact HC10013_0.out); rintro e w62 ⟨rfl, hb⟩; refine ⟨_, rfl, ?_⟩; replace HO_3 := Aside0.mk (Kd.R_below (Kd.R_ext ((Kd.R_mono (Kd.R_far (p := ⟨gb10014, 1, none⟩) (Kd.R_far (p := ⟨gb10014, 0, none⟩) (Kd.R_types HO_3.out BK10014.out (by decide)) (fun _ hk => hk.2) (.slice A10013_0 ((rd_T38 l0_2 x64_3).f0).length c10013_0)) (fun _ hk => hk.2) (.int .i64 ((rd_T38 l0_2 x64_3).f1))) (fun _ h_ => h_.1)))) hb); replace HO_4 := Aside0.mk (Kd.R_below (Kd.R_ext ((Kd.R_mono (Kd.R_far (p := ⟨gb10014, 1, none⟩) (Kd.R_far (p := ⟨gb10014, 0, none⟩) (Kd.R_types HO_4.out BK10014.out (by decide)) (fun _ hk => hk.2) (.slice A10013_0 ((rd_T38 l0_2 x64_3).f0).length c10013_0)) (fun _ hk => hk.2) (.int .i64 ((rd_T38 l0_2 x64_3).f1))) (fun _ h_ => h_.1)))) hb); replace BK10014 := Aside0.mk (blk_below (g := gb10014) (o := .cells #[.slice A10013_0 ((rd_T38 l0_2 x64_3).f0).length c10013_0, .int .i64 ((rd_T38 l0_2 x64_3).f1)] 38 (0, 0)) (by (with_reducible repeat (first | refine blk_drewN ?_ _ | refine blk_drew ?_ | refine blk_alloc ?_ _)); refine blk_put (cs := #[.slice A10013_0 ((rd_T38 l0_2 x64_3).f0).length c10013_0, .int .i64 0]) ?_ 1 _ rfl; (with_reducible repeat (first | refine blk_drewN ?_ _ | refine blk_drew ?_ | refine blk_alloc ?_ _)); refine blk_put (cs := #[.slice none 0 0, .int .i64 0]) ?_ 0 _ rfl; exact blk_ext BK10014.out) hb); replace HB := mvH HB hb; (try clear hb); (try clear hb2); (try clear hk); (try clear hi); obtain ⟨hcz63_0, hcz63_1, hfz63_0, hfz63_1⟩ := bk2 BK10014.out) | ((with_reducible refine gate_builtin (b := .append) (xs := #[.tmp 72, .tmp 75]) rfl ?_); (try (refine gate_guard (by rfl) ?_; dsimp only)); at_builtin; refine Kd.R_append (Kd.int .i64) (w0 := w) w.heap.size rfl (.tmp 72) (.tmp 75) 27 3 (.int .i64 0) 8 rfl Tryd.underlying27 info3 rfl (by decide) (by omega) u4 x4_3 ((rd_T38 l0_2 x64_3).f1) [.int .i64 ((rd_T38 l0_2 x64_3).f1)] (fun k_ => some k_ ≠ (u3 : Value).ownBlock) (fun _ => False) rfl rfl ?aP (fun _ hk => hk.elim) ?aF ?aO ?aB ?aS ?aL ?_; (case aP => exact rfl); (case aB => exact (below_extB HB.out)); (case aF => exact (fun k_ hk => Kd.fresh' (Kd.R_lt (Kd.R_ext HO_3.out)) k_ hk)); (case aO => exact (Kd.R_ext HO_4.out)); (case aS => exact (below_size (below_extB HB.out))); (case aL => have := LMc59.out; omega); intro v10017 w64 ho hb hg hat; rw [← Ny10016.out] at ho; replace HO_3 := Aside0.mk (Kd.R_after (ok := (fun _ => True)) (Kd.R_ext (Kd.R_mono HO_3.out (fun _ hk => ⟨trivial, hk⟩))) hg hat); replace BK10014 := Aside0.mk (blk_grown (g := gb10014) (o := .cells #[.slice A10013_0 ((rd_T38 l0_2 x64_3).f0).length c10013_0, .int .i64 ((rd_T38 l0_2 x64_3).f1)] 38 (0, 0)) (blk_ext BK10014.out) hg (Kd.R_ne HO_4.out BK10014.out (by decide))); replace HB := Aside0.mk (hb); have HO10018 := Aside0.mk (ho); clear HO_4; clear ho hb hg hat))
            go_roundg k3
            case measure => have := HJ3.out; have := HK2.out; have := HK3.out; omega
            case rel => exact ⟨(y10016), (wrap64 (x64_3 + 1)), rls, H', ⟨by have := HJ3.out; have := HK2.out; have := HK3.out; omega⟩, ⟨Kd.R_ext (Kd.R_mono HO_3.out (fun _ hk => hk.2))⟩, ⟨Kd.R_ext HO10018.out⟩, ⟨below_extB HB.out⟩⟩
           ·
            replace c58 := Bool.eq_false_iff.mpr c58
            subst c58
            have H1 : (some 1) = some r := by rw [if_neg (show ¬ (false = true) by decide)] at H; exact H
            clear H
            have H := H1
            clear H1
            obtain rfl := Option.some.inj H
            have p10013 : 0 ≤ (x64_3 : Int) := odt
            have q10013 : x64_3 < (l0_2.length : Int) := odt
            obtain ⟨ad10013, A10013_0, c10013_0, e10013, hx10013_0, hx10013_1, hl10013_0, hi10013_0⟩ := at_T38 HR0_2.out x64_3 p10013 q10013
            cases e10013
            (try replace hx10013_0 := (HB.out.cell (World.block_lt_of_cell? w _ hx10013_0)).trans hx10013_0)
            (try replace hx10013_1 := (HB.out.cell (World.block_lt_of_cell? w _ hx10013_1)).trans hx10013_1)
            have HR10013_0 := Aside0.mk hi10013_0
            have HC10013_0 := Aside0.mk hl10013_0
            clear hi10013_0 hl10013_0
            replace p10013 := eq_true p10013
            replace q10013 := eq_true q10013
            go_wp2_with (first | ((with_reducible refine gate_dst (N := 8) rfl ?_); (try (refine gate_guard (by rfl) ?_; dsimp only)); refine box_event ?hg (N := 8) ?hd (cs := #[.slice none 0 0, .int .i64 0]) (t := 38) ?hr ?_; (case hd => rfl); (case hg => rfl); (case hr => exact goR); intro gb10014 hg w65 hbox hb; have BK10014 := Aside0.mk (hbox); have GW10014 := gwE hg HB; have GE10014 := GW10014; have GI10014 := GE_.mk GE10014.out; replace HO_3 := mvR HO_3 hb; replace HO_4 := mvR HO_4 hb; replace HB := mvH HB hb; clear hb hbox hg; obtain ⟨hcz66_0, hcz66_1, hfz66_0, hfz66_1⟩ := bk2 BK10014.out) | ((with_reducible refine gate_callee (f := 27) rfl ?_); refine goesL_ (some 70) rfl rfl Tryd.func27 (by kernel_rfl) rfl #[.slice A10013_0 ((rd_T38 l0_2 x64_3).f0).length c10013_0] rfl goA ?_; (with_reducible refine (goods_words.calls k3 _ _ ((rd_T38 l0_2 x64_3).f0) false _ ?side1 ?side2 A57.out).mono ?_); (case side1 => exact Kd.C_below HR10013_0.out (below_extB HB.out)); (case side2 => exact HC10013_0.out); rintro e w67 ⟨rfl, hb⟩; refine ⟨_, rfl, ?_⟩; replace HO_3 := Aside0.mk (Kd.R_below (Kd.R_ext ((Kd.R_mono (Kd.R_far (p := ⟨gb10014, 1, none⟩) (Kd.R_far (p := ⟨gb10014, 0, none⟩) (Kd.R_types HO_3.out BK10014.out (by decide)) (fun _ hk => hk.2) (.slice A10013_0 ((rd_T38 l0_2 x64_3).f0).length c10013_0)) (fun _ hk => hk.2) (.int .i64 ((rd_T38 l0_2 x64_3).f1))) (fun _ h_ => h_.1)))) hb); replace HO_4 := Aside0.mk (Kd.R_below (Kd.R_ext ((Kd.R_mono (Kd.R_far (p := ⟨gb10014, 1, none⟩) (Kd.R_far (p := ⟨gb10014, 0, none⟩) (Kd.R_types HO_4.out BK10014.out (by decide)) (fun _ hk => hk.2) (.slice A10013_0 ((rd_T38 l0_2 x64_3).f0).length c10013_0)) (fun _ hk => hk.2) (.int .i64 ((rd_T38 l0_2 x64_3).f1))) (fun _ h_ => h_.1)))) hb); replace BK10014 := Aside0.mk (blk_below (g := gb10014) (o := .cells #[.slice A10013_0 ((rd_T38 l0_2 x64_3).f0).length c10013_0, .int .i64 ((rd_T38 l0_2 x64_3).f1)] 38 (0, 0)) (by (with_reducible repeat (first | refine blk_drewN ?_ _ | refine blk_drew ?_ | refine blk_alloc ?_ _)); refine blk_put (cs := #[.slice A10013_0 ((rd_T38 l0_2 x64_3).f0).length c10013_0, .int .i64 0]) ?_ 1 _ rfl; (with_reducible repeat (first | refine blk_drewN ?_ _ | refine blk_drew ?_ | refine blk_alloc ?_ _)); refine blk_put (cs := #[.slice none 0 0, .int .i64 0]) ?_ 0 _ rfl; exact blk_ext BK10014.out) hb); replace HB := mvH HB hb; (try clear hb); (try clear hb2); (try clear hk); (try clear hi)))
            go_ret
            exact ⟨by first | rfl | (simp [errW_none, errW_some] <;> rfl) | (simp [*, errW_none, errW_some] <;> rfl), below_extB HB.out⟩
          ·
           rw [if_neg c54] at H
           have c54b0 : decide (x64_3 < (l0_2.length : Int)) = false := decide_eq_false c54
           clear c54
           replace H := Option.bind_eq_some_iff.mp H
           obtain ⟨⟨t10019, t10020⟩, A680, H⟩ := H
           try dsimp only at H
           have A68 := Aside0.mk A680
           clear A680
           replace H := Option.bind_eq_some_iff.mp H
           obtain ⟨⟨t10021, t10022⟩, A690, H⟩ := H
           try dsimp only at H
           have A69 := Aside0.mk A690
           clear A690
           have HC70 := Aside0.mk H
           clear H
           obtain ⟨Ao71, co71, eo71⟩ := Kd.R_slice HO_3.out
           subst eo71
           go_upto_region 22 with (first | ((with_reducible refine gate_callee (f := 29) rfl ?_); refine goesL_ (some 80) rfl rfl Tryd.func29 (by kernel_rfl) rfl #[.slice Ao71 x3_2.length co71] rfl goA ?_; (with_reducible refine (goods_shares.calls k3 _ _ x3_2 t10019 t10020 _ ?side1 ?side2 A68.out).mono ?_); (case side1 => exact Kd.C_ext (Kd.R_reads' HO_3.out).2.2); (case side2 => exact (Kd.R_reads' HO_3.out).2.1); rintro e w' ⟨rfl, ⟨nd, rfl⟩⟩; refine ⟨_, rfl, ?_⟩; obtain ⟨Ao72, co72, eo72⟩ := Kd.R_slice HO_4.out; subst eo72) | ((with_reducible refine gate_callee (f := 29) rfl ?_); refine goesL_ (some 85) rfl rfl Tryd.func29 (by kernel_rfl) rfl #[.slice Ao72 x4_3.length co72] rfl goA ?_; (with_reducible refine (goods_shares.calls k3 _ _ x4_3 t10021 t10022 _ ?side1 ?side2 A69.out).mono ?_); (case side1 => exact Kd.C_ext (Kd.R_reads' HO_4.out).2.2); (case side2 => exact (Kd.R_reads' HO_4.out).2.1); rintro e w' ⟨rfl, ⟨nd, rfl⟩⟩; refine ⟨_, rfl, ?_⟩))
           (try simp only [Act.put, List.setIfInBounds_toArray, List.set_cons_zero, List.set_cons_succ])
           go_cut [93] (fun v93 wc => ∃ (kq : Nat) (x93_69 : Bool), v93 = .bool x93_69 ∧ Aside0 (goods_Validate.j3 kq t10020 t10022 x93_69 = some r) ∧ Aside0 (kq ≤ k3) ∧ Aside0 (Below w.heap.size w wc))
           case first =>
            have H := HC70.out
            clear HC70
            by_cases c73 : t10019 = true
            ·
             subst c73
             have H1 : (goods_Validate.j3 k3 t10020 t10022 (!t10021)) = some r := by rw [if_pos rfl] at H; exact H
             clear H
             have H := H1
             clear H1
             have H' := Aside0.mk H
             clear H
             go_wp2
             go_meet
             case rel => exact ⟨_, (!t10021), rls, H', ⟨by have := HJ3.out; have := HK2.out; have := HK3.out; first | omega | exact Nat.le_refl _⟩, ⟨below_ext HB.out⟩⟩
            ·
             replace c73 := Bool.eq_false_iff.mpr c73
             subst c73
             have H1 : (goods_Validate.j3 k3 t10020 t10022 true) = some r := by rw [if_neg (show ¬ (false = true) by decide)] at H; exact H
             clear H
             have H := H1
             clear H1
             have H' := Aside0.mk H
             clear H
             go_wp2
             go_meet
             case rel => exact ⟨_, (true), rls, H', ⟨by have := HJ3.out; have := HK2.out; have := HK3.out; first | omega | exact Nat.le_refl _⟩, ⟨below_ext HB.out⟩⟩
           case rest =>
            clear HC70
            try clear c1
            try clear p1
            try clear q1
            try clear hx1
            try clear c2
            try clear p2
            try clear c3
            try clear c4
            try clear c5
            try clear p6
            try clear c7
            try clear c10
            try clear p10
            try clear q10
            try clear hx10
            try clear c13
            try clear c13b0
            try clear c14
            try clear c15
            try clear c17
            try clear c18
            try clear c18b0
            try clear c20
            try clear c21
            try clear c27
            try clear c28
            try clear c29
            try clear c38
            try clear c40
            try clear c48
            try clear c54
            try clear c54b0
            try clear c55
            try clear c55b0
            try clear c56
            try clear c56b0
            try clear c58
            try clear c59
            try clear p64
            try clear c73
            try clear hcz41_0 hcz41_1
            try clear hcz45_0 hcz45_1
            try clear hcz49_0 hcz49_1
            try clear hcz53_0 hcz53_1 hcz53_2 hcz53_3
            try clear hcz61_0 hcz61_1
            try clear hcz63_0 hcz63_1
            try clear hcz66_0 hcz66_1
            try clear hfz41_0 hfz41_1
            try clear hfz45_0 hfz45_1
            try clear hfz49_0 hfz49_1
            try clear hfz53_0 hfz53_1 hfz53_2 hfz53_3
            try clear hfz61_0 hfz61_1
            try clear hfz63_0 hfz63_1
            try clear hfz66_0 hfz66_1
            try clear hx10003_0
            try clear hx10003_1
            try clear hx10006_0
            try clear hx10006_1
            try clear hx10013_0
            try clear hx10013_1
            try clear p1
            try clear p10
            try clear p10003
            try clear p10006
            try clear p10013
            try clear p2
            try clear p6
            try clear q1
            try clear q10
            try clear q10003
            try clear q10006
            try clear q10013
            obtain ⟨kq, x93_69, rfl, HA, HJ69, HB⟩ := hcut
            cases kq with
            | zero => exact absurd HA.out (by simp [goods_Validate.j3])
            | succ kj69 =>
             have H := HA.out
             clear HA
             simp only [goods_Validate.j3] at H
             by_cases c74 : x93_69 = true
             ·
              subst c74
              have H1 : (some 2) = some r := by rw [if_pos rfl] at H; exact H
              clear H
              have H := H1
              clear H1
              obtain rfl := Option.some.inj H
              go_wp2
              go_ret
              exact ⟨by first | rfl | (simp [errW_none, errW_some] <;> rfl) | (simp [*, errW_none, errW_some] <;> rfl), below_ext HB.out⟩
             ·
              replace c74 := Bool.eq_false_iff.mpr c74
              subst c74
              have H1 : (if t10020 = true then (if t10022 = true then (some 0) else (some 1)) else (some 1)) = some r := by rw [if_neg (show ¬ (false = true) by decide)] at H; exact H
              clear H
              have H := H1
              clear H1
              by_cases c75 : t10020 = true
              ·
               subst c75
               have H1 : (if t10022 = true then (some 0) else (some 1)) = some r := by rw [if_pos rfl] at H; exact H
               clear H
               have H := H1
               clear H1
               by_cases c76 : t10022 = true
               ·
                subst c76
                have H1 : (some 0) = some r := by rw [if_pos rfl] at H; exact H
                clear H
                have H := H1
                clear H1
                obtain rfl := Option.some.inj H
                go_wp2
                go_ret
                exact ⟨by first | rfl | (simp [errW_none, errW_some] <;> rfl) | (simp [*, errW_none, errW_some] <;> rfl), below_ext HB.out⟩
               ·
                replace c76 := Bool.eq_false_iff.mpr c76
                subst c76
                have H1 : (some 1) = some r := by rw [if_neg (show ¬ (false = true) by decide)] at H; exact H
                clear H
                have H := H1
                clear H1
                obtain rfl := Option.some.inj H
                go_wp2
                go_ret
                exact ⟨by first | rfl | (simp [errW_none, errW_some] <;> rfl) | (simp [*, errW_none, errW_some] <;> rfl), below_ext HB.out⟩
              ·
               replace c75 := Bool.eq_false_iff.mpr c75
               subst c75
               have H1 : (some 1) = some r := by rw [if_neg (show ¬ (false = true) by decide)] at H; exact H
               clear H
               have H := H1
               clear H1
               obtain rfl := Option.some.inj H
               go_wp2
               go_ret
               exact ⟨by first | rfl | (simp [errW_none, errW_some] <;> rfl) | (simp [*, errW_none, errW_some] <;> rfl), below_ext HB.out⟩
 ·
  replace c3 := Bool.eq_false_iff.mpr c3
  subst c3
  have H1 : (some 1) = some r := by rw [if_neg (show ¬ (false = true) by decide)] at H; exact H
  clear H
  have H := H1
  clear H1
  obtain rfl := Option.some.inj H
  go_enter Tryd.func10, Tryd.ntmps10
  go_wp2_with (first | ((with_reducible refine gate_dst (N := 1) rfl ?_); (try (refine gate_guard (by rfl) ?_; dsimp only)); refine box_event ?hg (N := 1) ?hd (cs := #[.slice A0_0 l0_0.length c0_0, .slice A0_1 l0_1.length c0_1, .slice A0_2 l0_2.length c0_2, .bool a0_3]) (t := 26) ?hr ?_; (case hd => rfl); (case hg => rfl); (case hr => exact goR); intro gb10001 hg w77 hbox hb; have BK10001 := Aside0.mk (hbox); have GW10001 := gwE hg HB; have GE10001 := GW10001; have GI10001 := GE_.mk GE10001.out; replace HB := mvH HB hb; clear hb hbox hg; obtain ⟨hcz78_0, hcz78_1, hcz78_2, hcz78_3, hfz78_0, hfz78_1, hfz78_2, hfz78_3⟩ := bk4 BK10001.out) | ((with_reducible refine gate_callee (f := 27) rfl ?_); refine goesL_ (some 15) rfl rfl Tryd.func27 (by kernel_rfl) rfl #[.slice A0_0 l0_0.length c0_0] rfl goA ?_; (with_reducible refine (goods_words.calls k _ _ l0_0 false _ ?side1 ?side2 A2.out).mono ?_); (case side1 => repeat (first | exact (Kd.C_below HR0_0.out HB.out) | (with_reducible refine Kd.C_alloc ?_ _) | (with_reducible refine Kd.C_drewN ?_ _) | (with_reducible refine Kd.C_drew ?_))); (case side2 => exact HC0_0.out); rintro e w79 ⟨rfl, hb⟩; refine ⟨_, rfl, ?_⟩; replace BK10001 := mvB BK10001 hb; replace HB := mvH HB hb; (try clear hb); (try clear hb2); (try clear hk); (try clear hi)))
  go_ret
  exact ⟨by first | rfl | (simp [errW_none, errW_some] <;> rfl) | (simp [*, errW_none, errW_some] <;> rfl), below_extB HB.out⟩

end Go.Proofs.YtoolggpfgadjlaaDoor.Z
