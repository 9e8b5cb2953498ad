/- Written by a program of this session: each Go function as a plain Lean function, and that the machine's call does what it says. Conditions: none but those each theorem states. -/
import Derived.Test.YtfljnggpnndmkaaZ0
import Derived.Test.YtfljnggpnndmkaaZcustomslaw38awake
import Derived.Test.YtfljnggpnndmkaaZchannelFlush
import Derived.Test.YtfljnggpnndmkaaZcustomsref33Flush
import Derived.Test.YtfljnggpnndmkaaZcustomsref33SameLine
namespace Go.Proofs.Ytfljnggpnndmkaa.Z
open Go.RowKit Go.Proofs.YtfljnggpnndmkaaW.PrintWords Go.Proofs.YtfljnggpnndmkaaW.PrintLast Go.Proofs.YtfljnggpnndmkaaW.PrintMore
attribute [local go_sem] max2_int min2_int max_two min_two max_three min_three max_four min_four   -- for this text's walks alone
set_option linter.unusedVariables false
set_option linter.unusedSimpArgs false

/-! ### customslaw38_ChannelFlushRaw: function 7 -/
def customslaw38_ChannelFlushRaw.j0 : Nat → Int → Int → Bool → Int → List Int → List Int → Option (Bool)
  | 0, _, _, _, _, _, _ => none
  | k + 1, x1, x2, x30, x7002000, x7002001, x7002002 => if x30 = true then ((customslaw38_awake.f k).bind fun t7002 => (some t7002)) else ((channel_Flush.f k x7002000 x7002001 x7002002 x1 x2).bind fun bt7003 => ((customsref33_Flush.f k x7002000 x7002001 x7002002 x1 x2).bind fun bt7013 => (if bt7003.2.2.2.2 = bt7013.2.2.2.2 then (if bt7003.2.2.2.1 = bt7013.2.2.2.1 then ((customsref33_SameLine.f k bt7003.1 bt7003.2.1 bt7003.2.2.1 bt7013.1 bt7013.2.1 bt7013.2.2.1).bind fun t7023 => (if t7023 = true then ((customslaw38_awake.f k).bind fun t7024 => (some t7024)) else (none))) else (none)) else (none))))
def customslaw38_ChannelFlushRaw.f (k : Nat) (a0_0 : Int) (l0_1 : List Int) (l0_2 : List Int) (a1 : Int) (a2 : Int) : Option (Bool) := if (l0_1.length : Int) > 100 then (customslaw38_ChannelFlushRaw.j0 k a1 a2 true a0_0 l0_1 l0_2) else (if (l0_2.length : Int) > 100 then (customslaw38_ChannelFlushRaw.j0 k a1 a2 true a0_0 l0_1 l0_2) else (if a1 > 2000 then (customslaw38_ChannelFlushRaw.j0 k a1 a2 (decide (a1 ≤ 1000000)) a0_0 l0_1 l0_2) else (customslaw38_ChannelFlushRaw.j0 k a1 a2 false a0_0 l0_1 l0_2)))
theorem customslaw38_ChannelFlushRaw.mono_l : ∀ k, (∀ y0 y1 y2 y3 y4 y5, LeO (customslaw38_ChannelFlushRaw.j0 k y0 y1 y2 y3 y4 y5) (customslaw38_ChannelFlushRaw.j0 (k + 1) y0 y1 y2 y3 y4 y5))
  | 0 => fun _ _ _ _ _ _ r h => by simp [customslaw38_ChannelFlushRaw.j0] at h
  | k + 1 => by
    have ih0 := customslaw38_ChannelFlushRaw.mono_l k
    · intro y0 y1 y2 y3 y4 y5
      unfold customslaw38_ChannelFlushRaw.j0
      repeat' first
      | (with_reducible exact ih0 _ _ _ _ _ _)
      | (with_reducible exact channel_Flush.mono _ _ _ _ _ _)
      | (with_reducible exact customslaw38_awake.mono _)
      | (with_reducible exact customsref33_Flush.mono _ _ _ _ _ _)
      | (with_reducible exact customsref33_SameLine.mono _ _ _ _ _ _ _)
      | (with_reducible exact LeO.refl _)
      | (with_reducible exact LeO.none _)
      | (with_reducible refine LeO.ite ?_ ?_)
      | (with_reducible refine LeO.bind ?_ (fun _ => ?_))
      | exact ih0 _ _ _ _ _ _
      | exact channel_Flush.mono _ _ _ _ _ _
      | exact customslaw38_awake.mono _
      | exact customsref33_Flush.mono _ _ _ _ _ _
      | exact customsref33_SameLine.mono _ _ _ _ _ _ _
      | exact LeO.none _
      | refine LeO.ite ?_ ?_
      | refine LeO.bind ?_ (fun _ => ?_)
theorem customslaw38_ChannelFlushRaw.mono : ∀ a0 a1 a2 a3 a4 k, LeO (customslaw38_ChannelFlushRaw.f k a0 a1 a2 a3 a4) (customslaw38_ChannelFlushRaw.f (k + 1) a0 a1 a2 a3 a4) := by
  intro a0 a1 a2 a3 a4 k
  have ih0 := customslaw38_ChannelFlushRaw.mono_l k
  unfold customslaw38_ChannelFlushRaw.f
  repeat' first
      | (with_reducible exact ih0 _ _ _ _ _ _)
      | (with_reducible exact channel_Flush.mono _ _ _ _ _ _)
      | (with_reducible exact customslaw38_awake.mono _)
      | (with_reducible exact customsref33_Flush.mono _ _ _ _ _ _)
      | (with_reducible exact customsref33_SameLine.mono _ _ _ _ _ _ _)
      | (with_reducible exact LeO.refl _)
      | (with_reducible exact LeO.none _)
      | (with_reducible refine LeO.ite ?_ ?_)
      | (with_reducible refine LeO.bind ?_ (fun _ => ?_))
      | exact ih0 _ _ _ _ _ _
      | exact channel_Flush.mono _ _ _ _ _ _
      | exact customslaw38_awake.mono _
      | exact customsref33_Flush.mono _ _ _ _ _ _
      | exact customsref33_SameLine.mono _ _ _ _ _ _ _
      | exact LeO.none _
      | refine LeO.ite ?_ ?_
      | refine LeO.bind ?_ (fun _ => ?_)
set_option maxHeartbeats 8000000 in
set_option maxRecDepth 100000 in
theorem customslaw38_ChannelFlushRaw.calls (k : Nat) (a0_0 : Int) (A0_1 : Option Addr) (c0_1 : Nat) (l0_1 : List Int) (A0_2 : Option Addr) (c0_2 : Nat) (l0_2 : List Int) (a1 : Int) (a2 : Int) (r : Bool) (w : World) (hr0_1 : Kd.C (Kd.int .i64) w A0_1 l0_1.length l0_1) (hc0_1 : l0_1.length ≤ c0_1) (hr0_2 : Kd.C (Kd.int .i64) w A0_2 l0_2.length l0_2) (hc0_2 : l0_2.length ≤ c0_2) (h : customslaw38_ChannelFlushRaw.f k a0_0 l0_1 l0_2 a1 a2 = some r) :
    Calls Try.prog 7 #[.agg #[.int .i64 a0_0, .slice A0_1 l0_1.length c0_1, .slice A0_2 l0_2.length c0_2], .int .i64 a1, .int .i64 a2] w fun e w' => e = .returned (.bool r) ∧ Below w.heap.size w w' := by
  have hu44 := Try.underlying44
  have HR0_1 := Aside0.mk hr0_1
  have HC0_1 := Aside0.mk hc0_1
  clear hr0_1 hc0_1
  have HR0_2 := Aside0.mk hr0_2
  have HC0_2 := Aside0.mk hc0_2
  clear hr0_2 hc0_2
  have HB := Aside0.mk (Below.refl w.heap.size w)
  have H : (if (l0_1.length : Int) > 100 then (customslaw38_ChannelFlushRaw.j0 k a1 a2 true a0_0 l0_1 l0_2) else (if (l0_2.length : Int) > 100 then (customslaw38_ChannelFlushRaw.j0 k a1 a2 true a0_0 l0_1 l0_2) else (if a1 > 2000 then (customslaw38_ChannelFlushRaw.j0 k a1 a2 (decide (a1 ≤ 1000000)) a0_0 l0_1 l0_2) else (customslaw38_ChannelFlushRaw.j0 k a1 a2 false a0_0 l0_1 l0_2)))) = some r := h
  clear h
  have HC4 := Aside0.mk H
  clear H
  go_enter Try.func7, Try.ntmps7
  go_upto_region 1 with (first | ((with_reducible refine gate_dst (N := 3) rfl ?_); (try (refine gate_guard (by rfl) ?_; dsimp only)); refine box_event ?hg (N := 3) ?hd (cs := #[.int .i64 a0_0, .slice A0_1 l0_1.length c0_1, .slice A0_2 l0_2.length c0_2]) (t := 44) ?hr ?_; (case hd => rfl); (case hg => rfl); (case hr => first | (go_simp; done) | (go_simp; rfl)); intro gb7001 hg w5 hbox hb; have n1_ := Aside0.mk (hbox); have n2_ := Aside0.mk ((by rw [hg]; exact (below_size (below_ext HB.out)) : w.heap.size ≤ gb7001)); have n3_ := Aside0.mk ((by rw [hg]; exact (below_size (below_ext HB.out)) : w.heap.size ≤ gb7001)); have BK7001 := n1_; have GW7001 := n2_; have GE7001 := n3_; have GI7001 := GE_.mk GE7001.out; replace HB := mvH HB hb; clear n1_ n2_ n3_; clear hb hbox hg))
  (try simp only [Act.put, List.setIfInBounds_toArray, List.set_cons_zero, List.set_cons_succ])
  go_cut [30] (fun v30 wc => ∃ (kq : Nat) (x30_3 : Bool), v30 = .bool x30_3 ∧ Aside0 (customslaw38_ChannelFlushRaw.j0 kq a1 a2 x30_3 a0_0 l0_1 l0_2 = some r) ∧ Aside0 (kq ≤ k) ∧ Aside0 (wc.heap[gb7001]? = some (.cells #[.int .i64 a0_0, (.slice A0_1 l0_1.length c0_1), (.slice A0_2 l0_2.length c0_2)] 44 (0, 0))) ∧ Aside0 (Below w.heap.size w wc))
  case first =>
    have H := HC4.out
    clear HC4
    by_cases c6 : (l0_1.length : Int) > 100
    · rw [if_pos c6] at H
      have c6b0 : decide (100 < (l0_1.length : Int)) = true := decide_eq_true c6
      have c6b1 : decide (100 < l0_1.length) = true := decide_eq_true (by omega)
      clear c6
      (first | rw [c6b0] | (simp only [i64_w, i32_w]; rw [c6b0]) | skip)
      have H' := Aside0.mk H
      clear H
      have hcz7_0 : w5.cell? ⟨gb7001, 0, none⟩ = some (.int .i64 a0_0) := (blk_cell BK7001.out 0).trans rfl
      have hcz7_1 : w5.cell? ⟨gb7001, 1, none⟩ = some (.slice A0_1 l0_1.length c0_1) := (blk_cell BK7001.out 1).trans rfl
      have hcz7_2 : w5.cell? ⟨gb7001, 2, none⟩ = some (.slice A0_2 l0_2.length c0_2) := (blk_cell BK7001.out 2).trans rfl
      have hfz7_0 := blk_frozen BK7001.out 0
      have hfz7_1 := blk_frozen BK7001.out 1
      have hfz7_2 := blk_frozen BK7001.out 2
      go_wp2
      go_meet
      case rel => exact ⟨_, (true), (by first | rfl | (simp; done) | (simp [*]; done)), H', ⟨by first | omega | exact Nat.le_refl _⟩, ⟨blk_ext BK7001.out⟩, ⟨below_extB HB.out⟩⟩
    · rw [if_neg c6] at H
      have c6b0 : decide (100 < (l0_1.length : Int)) = false := decide_eq_false c6
      have c6b1 : decide (100 < l0_1.length) = false := decide_eq_false (by omega)
      clear c6
      (first | rw [c6b0] | (simp only [i64_w, i32_w]; rw [c6b0]) | skip)
      by_cases c8 : (l0_2.length : Int) > 100
      · rw [if_pos c8] at H
        have c8b0 : decide (100 < (l0_2.length : Int)) = true := decide_eq_true c8
        have c8b1 : decide (100 < l0_2.length) = true := decide_eq_true (by omega)
        clear c8
        have H' := Aside0.mk H
        clear H
        have hcz9_0 : w5.cell? ⟨gb7001, 0, none⟩ = some (.int .i64 a0_0) := (blk_cell BK7001.out 0).trans rfl
        have hcz9_1 : w5.cell? ⟨gb7001, 1, none⟩ = some (.slice A0_1 l0_1.length c0_1) := (blk_cell BK7001.out 1).trans rfl
        have hcz9_2 : w5.cell? ⟨gb7001, 2, none⟩ = some (.slice A0_2 l0_2.length c0_2) := (blk_cell BK7001.out 2).trans rfl
        have hfz9_0 := blk_frozen BK7001.out 0
        have hfz9_1 := blk_frozen BK7001.out 1
        have hfz9_2 := blk_frozen BK7001.out 2
        go_wp2
        go_meet
        case rel => exact ⟨_, (true), (by first | rfl | (simp; done) | (simp [*]; done)), H', ⟨by first | omega | exact Nat.le_refl _⟩, ⟨blk_ext BK7001.out⟩, ⟨below_extB HB.out⟩⟩
      · rw [if_neg c8] at H
        have c8b0 : decide (100 < (l0_2.length : Int)) = false := decide_eq_false c8
        have c8b1 : decide (100 < l0_2.length) = false := decide_eq_false (by omega)
        clear c8
        by_cases c10 : a1 > 2000
        · rw [if_pos c10] at H
          have c10b0 : decide (2000 < a1) = true := decide_eq_true c10
          clear c10
          have H' := Aside0.mk H
          clear H
          have hcz11_0 : w5.cell? ⟨gb7001, 0, none⟩ = some (.int .i64 a0_0) := (blk_cell BK7001.out 0).trans rfl
          have hcz11_1 : w5.cell? ⟨gb7001, 1, none⟩ = some (.slice A0_1 l0_1.length c0_1) := (blk_cell BK7001.out 1).trans rfl
          have hcz11_2 : w5.cell? ⟨gb7001, 2, none⟩ = some (.slice A0_2 l0_2.length c0_2) := (blk_cell BK7001.out 2).trans rfl
          have hfz11_0 := blk_frozen BK7001.out 0
          have hfz11_1 := blk_frozen BK7001.out 1
          have hfz11_2 := blk_frozen BK7001.out 2
          go_wp2
          go_meet
          case rel => exact ⟨_, (decide (a1 ≤ 1000000)), (by first | rfl | (simp; done) | (simp [*]; done)), H', ⟨by first | omega | exact Nat.le_refl _⟩, ⟨blk_ext BK7001.out⟩, ⟨below_extB HB.out⟩⟩
        · rw [if_neg c10] at H
          have c10b0 : decide (2000 < a1) = false := decide_eq_false c10
          clear c10
          have H' := Aside0.mk H
          clear H
          have hcz12_0 : w5.cell? ⟨gb7001, 0, none⟩ = some (.int .i64 a0_0) := (blk_cell BK7001.out 0).trans rfl
          have hcz12_1 : w5.cell? ⟨gb7001, 1, none⟩ = some (.slice A0_1 l0_1.length c0_1) := (blk_cell BK7001.out 1).trans rfl
          have hcz12_2 : w5.cell? ⟨gb7001, 2, none⟩ = some (.slice A0_2 l0_2.length c0_2) := (blk_cell BK7001.out 2).trans rfl
          have hfz12_0 := blk_frozen BK7001.out 0
          have hfz12_1 := blk_frozen BK7001.out 1
          have hfz12_2 := blk_frozen BK7001.out 2
          go_wp2
          go_meet
          case rel => exact ⟨_, (false), (by first | rfl | (simp; done) | (simp [*]; done)), H', ⟨by first | omega | exact Nat.le_refl _⟩, ⟨blk_ext BK7001.out⟩, ⟨below_extB HB.out⟩⟩
  case rest =>
    clear HC4
    try clear c1
    try clear p2
    try clear c6
    try clear c6b0
    try clear c6b1
    try clear c7
    try clear c8
    try clear c8b0
    try clear c8b1
    try clear c10
    try clear c10b0
    try clear hcz11_0
    try clear hcz11_1
    try clear hcz11_2
    try clear hcz12_0
    try clear hcz12_1
    try clear hcz12_2
    try clear hcz7_0
    try clear hcz7_1
    try clear hcz7_2
    try clear hcz9_0
    try clear hcz9_1
    try clear hcz9_2
    try clear hfz11_0
    try clear hfz11_1
    try clear hfz11_2
    try clear hfz12_0
    try clear hfz12_1
    try clear hfz12_2
    try clear hfz7_0
    try clear hfz7_1
    try clear hfz7_2
    try clear hfz9_0
    try clear hfz9_1
    try clear hfz9_2
    obtain ⟨kq, x30_3, rfl, HA, HJ3, BK7001, HB⟩ := hcut
    cases kq with
    | zero => exact absurd HA.out (by simp [customslaw38_ChannelFlushRaw.j0])
    | succ kj3 =>
      have H := HA.out
      clear HA
      simp only [customslaw38_ChannelFlushRaw.j0] at H
      by_cases c13 : x30_3 = true
      · subst c13
        have H1 : ((customslaw38_awake.f kj3).bind fun t7002 => (some t7002)) = some r := by rw [if_pos rfl] at H; exact H
        clear H
        have H := H1
        clear H1
        replace H := Option.bind_eq_some_iff.mp H
        obtain ⟨t7002, A140, H⟩ := H
        try dsimp only at H
        have A14 := Aside0.mk A140
        clear A140
        obtain rfl := Option.some.inj H
        go_wp2_with (first | ((with_reducible refine gate_callee (f := 32) rfl ?_); refine goesL_ (some 31) rfl rfl Try.func32 (by kernel_rfl) rfl #[] rfl (by (try simp only [List.map_toArray, List.map_cons, List.map_nil]); first | done | rfl | (simp only [List.length_drop, List.length_take]; rfl)) ?_; (with_reducible refine (customslaw38_awake.calls kj3  t7002 _ A14.out).mono ?_); rintro e w15 ⟨rfl, hb⟩; refine ⟨_, rfl, ?_⟩; replace BK7001 := mvB BK7001 hb; replace HB := mvH HB hb; (try clear hb); (try clear hb2); (try clear hk); (try clear hi)))
        go_ret
        exact ⟨by first | rfl | (simp [errW_none, errW_some] <;> rfl) | (simp [*, errW_none, errW_some] <;> rfl), below_extB HB.out⟩
      · replace c13 := Bool.eq_false_iff.mpr c13
        subst c13
        have H1 : ((channel_Flush.f kj3 a0_0 l0_1 l0_2 a1 a2).bind fun bt7003 => ((customsref33_Flush.f kj3 a0_0 l0_1 l0_2 a1 a2).bind fun bt7013 => (if bt7003.2.2.2.2 = bt7013.2.2.2.2 then (if bt7003.2.2.2.1 = bt7013.2.2.2.1 then ((customsref33_SameLine.f kj3 bt7003.1 bt7003.2.1 bt7003.2.2.1 bt7013.1 bt7013.2.1 bt7013.2.2.1).bind fun t7023 => (if t7023 = true then ((customslaw38_awake.f kj3).bind fun t7024 => (some t7024)) else (none))) else (none)) else (none)))) = some r := by rw [if_neg (show ¬ (false = true) by decide)] at H; exact H
        clear H
        have H := H1
        clear H1
        replace H := Option.bind_eq_some_iff.mp H
        obtain ⟨⟨t7003, t7004, t7007, t7010, t7011⟩, A160, H⟩ := H
        try dsimp only at H
        have A16 := Aside0.mk A160
        clear A160
        replace H := Option.bind_eq_some_iff.mp H
        obtain ⟨⟨t7013, t7014, t7017, t7020, t7021⟩, A170, H⟩ := H
        try dsimp only at H
        have A17 := Aside0.mk A170
        clear A170
        by_cases c18 : t7011 = t7021
        · rw [if_pos c18] at H
          have c18b0 : (t7011 == t7021) = true := beq_iff_eq.mpr c18
          have c18b1 : (t7011 != t7021) = false := bne_eq_false_iff_eq.mpr c18
          clear c18
          replace H := if_some H; obtain ⟨c19, H⟩ := H
          have c19b0 : (t7010 == t7020) = true := beq_iff_eq.mpr c19
          have c19b1 : (t7010 != t7020) = false := bne_eq_false_iff_eq.mpr c19
          clear c19
          replace H := Option.bind_eq_some_iff.mp H
          obtain ⟨t7023, A200, H⟩ := H
          try dsimp only at H
          have A20 := Aside0.mk A200
          clear A200
          by_cases c21 : t7023 = true
          · subst c21
            have H1 : ((customslaw38_awake.f kj3).bind fun t7024 => (some t7024)) = some r := by rw [if_pos rfl] at H; exact H
            clear H
            have H := H1
            clear H1
            replace H := Option.bind_eq_some_iff.mp H
            obtain ⟨t7024, A220, H⟩ := H
            try dsimp only at H
            have A22 := Aside0.mk A220
            clear A220
            obtain rfl := Option.some.inj H
            have hcz23_0 : wc.cell? ⟨gb7001, 0, none⟩ = some (.int .i64 a0_0) := (blk_cell BK7001.out 0).trans rfl
            have hcz23_1 : wc.cell? ⟨gb7001, 1, none⟩ = some (.slice A0_1 l0_1.length c0_1) := (blk_cell BK7001.out 1).trans rfl
            have hcz23_2 : wc.cell? ⟨gb7001, 2, none⟩ = some (.slice A0_2 l0_2.length c0_2) := (blk_cell BK7001.out 2).trans rfl
            have hfz23_0 := blk_frozen BK7001.out 0
            have hfz23_1 := blk_frozen BK7001.out 1
            have hfz23_2 := blk_frozen BK7001.out 2
            go_wp2_with (first | ((with_reducible refine gate_callee (f := 33) rfl ?_); refine goesL_ (some 36) rfl rfl Try.func33 (by kernel_rfl) rfl #[.agg #[.int .i64 a0_0, .slice A0_1 l0_1.length c0_1, .slice A0_2 l0_2.length c0_2], .int .i64 a1, .int .i64 a2] rfl (by (try simp only [List.map_toArray, List.map_cons, List.map_nil]); first | done | rfl | (simp only [List.length_drop, List.length_take]; rfl)) ?_; (with_reducible refine (channel_Flush.calls kj3 a0_0 _ _ l0_1 _ _ l0_2 a1 a2 t7003 t7004 t7007 t7010 t7011 _ ?side1 ?side2 ?side3 ?side4 A16.out).mono ?_); (case side1 => repeat (first | exact (Kd.C_below HR0_1.out HB.out) | (with_reducible refine Kd.C_alloc ?_ _) | (with_reducible refine Kd.C_drewN ?_ _) | (with_reducible refine Kd.C_drew ?_))); (case side2 => exact HC0_1.out); (case side3 => repeat (first | exact (Kd.C_below HR0_2.out HB.out) | (with_reducible refine Kd.C_alloc ?_ _) | (with_reducible refine Kd.C_drewN ?_ _) | (with_reducible refine Kd.C_drew ?_))); (case side4 => exact HC0_2.out); rintro e w24 ⟨v7005, v7008, rfl, ho0, ho1, hb⟩; refine ⟨_, rfl, ?_⟩; have n0_ := Aside0.mk (Kd.R_lower ho0 (below_size (below_extB HB.out))); have n1_ := Aside0.mk (Kd.R_lower ho1 (below_size (below_extB HB.out))); have HO7006 := n0_; have HO7009 := n1_; replace BK7001 := mvB BK7001 hb; replace HB := mvH HB hb; clear n0_ n1_; (try clear hb); (try clear hb2); (try clear hk); (try clear hi); (try clear ho0); (try clear ho1)) | ((with_reducible refine gate_dst (N := 7) rfl ?_); (try (refine gate_guard (by rfl) ?_; dsimp only)); refine box_event ?hg (N := 7) ?hd (cs := #[.int .i64 0, .slice none 0 0, .slice none 0 0]) (t := 44) ?hr ?_; (case hd => rfl); (case hg => rfl); (case hr => first | (go_simp; done) | (go_simp; rfl)); intro gb7012 hg w25 hbox hb; have n4_ := Aside0.mk (hbox); have n5_ := Aside0.mk ((by rw [hg]; exact (below_size (below_extB HB.out)) : w.heap.size ≤ gb7012)); have n6_ := Aside0.mk ((by rw [hg]; exact (below_size (below_extB HB.out)) : w.heap.size ≤ gb7012)); have n7_ := Aside0.mk ((by rw [hg]; exact Nat.ne_of_lt (blk_lt (blk_ext BK7001.out)) : gb7001 ≠ gb7012)); have n8_ := Aside0.mk ((by rw [hg]; exact Nat.ne_of_gt (blk_lt (blk_ext BK7001.out)) : gb7012 ≠ gb7001)); have BK7012 := n4_; have GW7012 := n5_; have GE7012 := n6_; have GI7012 := GE_.mk GE7012.out; have NB7001_7012 := n7_; have NI7001_7012 := NE_.mk NB7001_7012.out; have NB7012_7001 := n8_; have NI7012_7001 := NE_.mk NB7012_7001.out; replace HO7006 := mvR HO7006 hb; replace HO7009 := mvR HO7009 hb; replace BK7001 := mvB BK7001 hb; replace HB := mvH HB hb; clear n4_ n5_ n6_ n7_ n8_; clear hb hbox hg; have hnb26 := NB7012_7001.out; have hnc26 := NB7001_7012.out; have hcz27_0 : w25.cell? ⟨gb7012, 0, none⟩ = some (.int .i64 0) := (blk_cell BK7012.out 0).trans rfl; have hcz27_1 : w25.cell? ⟨gb7012, 1, none⟩ = some (.slice none 0 0) := (blk_cell BK7012.out 1).trans rfl; have hcz27_2 : w25.cell? ⟨gb7012, 2, none⟩ = some (.slice none 0 0) := (blk_cell BK7012.out 2).trans rfl; have hfz27_0 := blk_frozen BK7012.out 0; have hfz27_1 := blk_frozen BK7012.out 1; have hfz27_2 := blk_frozen BK7012.out 2; obtain ⟨Ao28, co28, eo28⟩ := Kd.R_slice HO7006.out; subst eo28; obtain ⟨Ao29, co29, eo29⟩ := Kd.R_slice HO7009.out; subst eo29) | ((with_reducible refine gate_store (t := 44) (p := 7) rfl ?_); refine store_event (t := 44) (p := 7) (v := ?vo_w30) (w1 := (((w25.setCell ⟨gb7012, 0, none⟩ (.int .i64 t7003)).setCell ⟨gb7012, 1, none⟩ (.slice Ao28 t7004.length co28)).setCell ⟨gb7012, 2, none⟩ (.slice Ao29 t7007.length co29))) ?hg ?ho ?hn ?hr ?_; (case ho => rfl); (case hg => rfl); (case hn => rfl); (case hr => first | (go_simp; done) | (go_simp; rfl)); intro w30 hw; have n0_ : Aside0 (Kd.R (Kd.int .i64) 3 w30 w.heap.size (fun k_ => some k_ ≠ (.slice Ao29 t7007.length co29 : Value).ownBlock) (.slice Ao28 t7004.length co28) t7004) := ⟨(by rw [hw]; exact (Kd.R_ext (Kd.R_mono (Kd.R_far (p := ⟨gb7012, 2, none⟩) (Kd.R_far (p := ⟨gb7012, 1, none⟩) (Kd.R_far (p := ⟨gb7012, 0, none⟩) (Kd.R_types HO7006.out BK7012.out (by decide)) (fun _ hk => hk.2) (.int .i64 t7003)) (fun _ hk => hk.2) (.slice Ao28 t7004.length co28)) (fun _ hk => hk.2) (.slice Ao29 t7007.length co29)) (fun _ hk => hk.1))))⟩; have n1_ : Aside0 (Kd.R (Kd.int .i64) 3 w30 w.heap.size (fun k_ => some k_ ≠ (.slice Ao28 t7004.length co28 : Value).ownBlock) (.slice Ao29 t7007.length co29) t7007) := ⟨(by rw [hw]; exact (Kd.R_ext (Kd.R_mono (Kd.R_far (p := ⟨gb7012, 2, none⟩) (Kd.R_far (p := ⟨gb7012, 1, none⟩) (Kd.R_far (p := ⟨gb7012, 0, none⟩) (Kd.R_types HO7009.out BK7012.out (by decide)) (fun _ hk => hk.2) (.int .i64 t7003)) (fun _ hk => hk.2) (.slice Ao28 t7004.length co28)) (fun _ hk => hk.2) (.slice Ao29 t7007.length co29)) (fun _ hk => hk.1))))⟩; have n2_ : Aside0 (w30.heap[gb7001]? = some (.cells #[.int .i64 a0_0, .slice A0_1 l0_1.length c0_1, .slice A0_2 l0_2.length c0_2] 44 (0, 0))) := ⟨(by rw [hw]; exact (blk_extC BK7001.out))⟩; have n3_ : Aside0 (w30.heap[gb7012]? = some (.cells #[.int .i64 t7003, .slice Ao28 t7004.length co28, .slice Ao29 t7007.length co29] 44 (0, 0))) := ⟨(by rw [hw]; exact (by (with_reducible repeat (first | refine blk_drewN ?_ _ | refine blk_drew ?_ | refine blk_alloc ?_ _)); refine blk_put (cs := #[.int .i64 t7003, .slice Ao28 t7004.length co28, .slice none 0 0]) ?_ 2 _ rfl; (with_reducible repeat (first | refine blk_drewN ?_ _ | refine blk_drew ?_ | refine blk_alloc ?_ _)); refine blk_put (cs := #[.int .i64 t7003, .slice none 0 0, .slice none 0 0]) ?_ 1 _ rfl; (with_reducible repeat (first | refine blk_drewN ?_ _ | refine blk_drew ?_ | refine blk_alloc ?_ _)); refine blk_put (cs := #[.int .i64 0, .slice none 0 0, .slice none 0 0]) ?_ 0 _ rfl; exact blk_ext BK7012.out))⟩; have n4_ : Aside0 (Below w.heap.size w w30) := ⟨(by rw [hw]; exact (below_extB HB.out))⟩; clear hw; clear HO7006; clear HO7009; clear BK7001; clear BK7012; clear HB; have HO7006 := n0_; have HO7009 := n1_; have BK7001 := n2_; have BK7012 := n3_; have HB := n4_; clear n0_ n1_ n2_ n3_ n4_; have hcz31_0 : w30.cell? ⟨gb7001, 0, none⟩ = some (.int .i64 a0_0) := (blk_cell BK7001.out 0).trans rfl; have hcz31_1 : w30.cell? ⟨gb7001, 1, none⟩ = some (.slice A0_1 l0_1.length c0_1) := (blk_cell BK7001.out 1).trans rfl; have hcz31_2 : w30.cell? ⟨gb7001, 2, none⟩ = some (.slice A0_2 l0_2.length c0_2) := (blk_cell BK7001.out 2).trans rfl; have hfz31_0 := blk_frozen BK7001.out 0; have hfz31_1 := blk_frozen BK7001.out 1; have hfz31_2 := blk_frozen BK7001.out 2) | ((with_reducible refine gate_callee (f := 34) rfl ?_); refine goesL_ (some 44) rfl rfl Try.func34 (by kernel_rfl) rfl #[.agg #[.int .i64 a0_0, .slice A0_1 l0_1.length c0_1, .slice A0_2 l0_2.length c0_2], .int .i64 a1, .int .i64 a2] rfl (by (try simp only [List.map_toArray, List.map_cons, List.map_nil]); first | done | rfl | (simp only [List.length_drop, List.length_take]; rfl)) ?_; (with_reducible refine (customsref33_Flush.calls kj3 a0_0 _ _ l0_1 (fun k_ => k_ < w.heap.size) _ _ l0_2 a1 a2 t7013 t7014 t7017 t7020 t7021 _ ?side1 ?side2 ?side3 A17.out).mono ?_); (case side1 => repeat (first | exact (Kd.C_below HR0_1.out HB.out) | (with_reducible refine Kd.C_alloc ?_ _) | (with_reducible refine Kd.C_drewN ?_ _) | (with_reducible refine Kd.C_drew ?_))); (case side2 => exact HC0_1.out); (case side3 => exact Kd.V_mk HC0_2.out (Kd.F_below (Kd.C_F (Kd.heap_int .i64) HR0_2.out) (below_extB HB.out))); rintro e w32 ⟨v7015, v7018, rfl, ho0, ho1, hb⟩; refine ⟨_, rfl, ?_⟩; have n2_ := Aside0.mk (Kd.V_lower (Kd.V_mono (ok' := fun k_ => some k_ ≠ (.slice Ao28 t7004.length co28 : Value).ownBlock ∧ some k_ ≠ (.slice Ao29 t7007.length co29 : Value).ownBlock ∧ k_ ≠ gb7001 ∧ k_ ≠ gb7012) ho0 (fun k_ hk_ => ⟨Or.elim hk_ (fun hs_ => fun e_ => Nat.not_le.2 hs_ (Kd.R_base HO7006.out k_ e_.symm)) (fun hn_ => (Kd.fresh' (Kd.R_lt (Kd.R_ext HO7006.out)) k_ hn_)), Or.elim hk_ (fun hs_ => fun e_ => Nat.not_le.2 hs_ (Kd.R_base HO7009.out k_ e_.symm)) (fun hn_ => (Kd.fresh' (Kd.R_lt (Kd.R_ext HO7009.out)) k_ hn_)), Or.elim hk_ (fun hs_ => fun e_ => Nat.not_le.2 hs_ (by rw [e_]; exact GW7001.out)) (fun hn_ => (Kd.freshB (blk_ext BK7001.out) k_ hn_)), Or.elim hk_ (fun hs_ => fun e_ => Nat.not_le.2 hs_ (by rw [e_]; exact GW7012.out)) (fun hn_ => (Kd.freshB (blk_ext BK7012.out) k_ hn_))⟩)) (below_size (below_extB HB.out))); have n3_ := Aside0.mk (Kd.V_lower (Kd.V_mono (ok' := fun k_ => some k_ ≠ (.slice Ao28 t7004.length co28 : Value).ownBlock ∧ some k_ ≠ (.slice Ao29 t7007.length co29 : Value).ownBlock ∧ k_ ≠ gb7001 ∧ k_ ≠ gb7012) ho1 (fun k_ hk_ => ⟨Or.elim hk_ (fun hs_ => fun e_ => Nat.not_le.2 hs_ (Kd.R_base HO7006.out k_ e_.symm)) (fun hn_ => (Kd.fresh' (Kd.R_lt (Kd.R_ext HO7006.out)) k_ hn_)), Or.elim hk_ (fun hs_ => fun e_ => Nat.not_le.2 hs_ (Kd.R_base HO7009.out k_ e_.symm)) (fun hn_ => (Kd.fresh' (Kd.R_lt (Kd.R_ext HO7009.out)) k_ hn_)), Or.elim hk_ (fun hs_ => fun e_ => Nat.not_le.2 hs_ (by rw [e_]; exact GW7001.out)) (fun hn_ => (Kd.freshB (blk_ext BK7001.out) k_ hn_)), Or.elim hk_ (fun hs_ => fun e_ => Nat.not_le.2 hs_ (by rw [e_]; exact GW7012.out)) (fun hn_ => (Kd.freshB (blk_ext BK7012.out) k_ hn_))⟩)) (below_size (below_extB HB.out))); have HO7016 := n2_; have HO7019 := n3_; replace HO7006 := mvR HO7006 hb; replace HO7009 := mvR HO7009 hb; replace BK7001 := mvB BK7001 hb; replace BK7012 := mvB BK7012 hb; replace HB := mvH HB hb; clear n2_ n3_; (try clear hb); (try clear hb2); (try clear hk); (try clear hi); (try clear ho0); (try clear ho1)) | ((with_reducible refine gate_dst (N := 10) rfl ?_); (try (refine gate_guard (by rfl) ?_; dsimp only)); refine box_event ?hg (N := 10) ?hd (cs := #[.int .i64 0, .slice none 0 0, .slice none 0 0]) (t := 44) ?hr ?_; (case hd => rfl); (case hg => rfl); (case hr => first | (go_simp; done) | (go_simp; rfl)); intro gb7022 hg w33 hbox hb; have n7_ := Aside0.mk (hbox); have n8_ := Aside0.mk ((by rw [hg]; exact (below_size (below_extB HB.out)) : w.heap.size ≤ gb7022)); have n9_ := Aside0.mk ((by rw [hg]; exact (below_size (below_extB HB.out)) : w.heap.size ≤ gb7022)); have n10_ := Aside0.mk ((by rw [hg]; exact Nat.ne_of_lt (blk_lt (blk_ext BK7001.out)) : gb7001 ≠ gb7022)); have n11_ := Aside0.mk ((by rw [hg]; exact Nat.ne_of_gt (blk_lt (blk_ext BK7001.out)) : gb7022 ≠ gb7001)); have n12_ := Aside0.mk ((by rw [hg]; exact Nat.ne_of_lt (blk_lt (blk_ext BK7012.out)) : gb7012 ≠ gb7022)); have n13_ := Aside0.mk ((by rw [hg]; exact Nat.ne_of_gt (blk_lt (blk_ext BK7012.out)) : gb7022 ≠ gb7012)); have BK7022 := n7_; have GW7022 := n8_; have GE7022 := n9_; have GI7022 := GE_.mk GE7022.out; have NB7001_7022 := n10_; have NI7001_7022 := NE_.mk NB7001_7022.out; have NB7022_7001 := n11_; have NI7022_7001 := NE_.mk NB7022_7001.out; have NB7012_7022 := n12_; have NI7012_7022 := NE_.mk NB7012_7022.out; have NB7022_7012 := n13_; have NI7022_7012 := NE_.mk NB7022_7012.out; replace HO7006 := mvR HO7006 hb; replace HO7009 := mvR HO7009 hb; replace HO7016 := awV HO7016 hb gb7022 hg; replace HO7019 := awV HO7019 hb gb7022 hg; replace BK7001 := mvB BK7001 hb; replace BK7012 := mvB BK7012 hb; replace HB := mvH HB hb; clear n7_ n8_ n9_ n10_ n11_ n12_ n13_; clear hb hbox hg; have hnb34 := NB7022_7001.out; have hnc34 := NB7001_7022.out; have hnb35 := NB7022_7012.out; have hnc35 := NB7012_7022.out; have hcz36_0 : w33.cell? ⟨gb7022, 0, none⟩ = some (.int .i64 0) := (blk_cell BK7022.out 0).trans rfl; have hcz36_1 : w33.cell? ⟨gb7022, 1, none⟩ = some (.slice none 0 0) := (blk_cell BK7022.out 1).trans rfl; have hcz36_2 : w33.cell? ⟨gb7022, 2, none⟩ = some (.slice none 0 0) := (blk_cell BK7022.out 2).trans rfl; have hfz36_0 := blk_frozen BK7022.out 0; have hfz36_1 := blk_frozen BK7022.out 1; have hfz36_2 := blk_frozen BK7022.out 2; obtain ⟨Ao37, co37, eo37⟩ := Kd.V_slice HO7016.out; subst eo37; obtain ⟨Ao38, co38, eo38⟩ := Kd.V_slice HO7019.out; subst eo38; have hcz39_0 : w33.cell? ⟨gb7012, 0, none⟩ = some (.int .i64 t7003) := (blk_cell BK7012.out 0).trans rfl; have hcz39_1 : w33.cell? ⟨gb7012, 1, none⟩ = some (.slice Ao28 t7004.length co28) := (blk_cell BK7012.out 1).trans rfl; have hcz39_2 : w33.cell? ⟨gb7012, 2, none⟩ = some (.slice Ao29 t7007.length co29) := (blk_cell BK7012.out 2).trans rfl; have hfz39_0 := blk_frozen BK7012.out 0; have hfz39_1 := blk_frozen BK7012.out 1; have hfz39_2 := blk_frozen BK7012.out 2) | (go_at_call 35; (with_reducible refine (customsref33_SameLine.calls kj3 t7003 _ _ t7004 _ _ t7007 t7013 _ _ t7014 _ _ t7017 true _ ?side1 ?side2 ?side3 ?side4 ?side5 ?side6 ?side7 ?side8 A20.out).mono ?_); (case side1 => refine (Kd.R_reads' (e := 3) (base := w.heap.size) (ok := fun k_ => some k_ ≠ (.slice Ao29 t7007.length co29 : Value).ownBlock) (n := t7004.length) (c := co28) ?_).2.2; exact (Kd.R_ext ((Kd.R_mono (Kd.R_far (p := ⟨gb7022, 2, none⟩) (Kd.R_far (p := ⟨gb7022, 1, none⟩) (Kd.R_far (p := ⟨gb7022, 0, none⟩) (Kd.R_types HO7006.out BK7022.out (by decide)) (fun _ hk => hk.2) (.int .i64 t7013)) (fun _ hk => hk.2) (.slice Ao37 t7014.length co37)) (fun _ hk => hk.2) (.slice Ao38 t7017.length co38)) (fun _ h_ => h_.1))))); (case side2 => exact (Kd.R_reads' HO7006.out).2.1); (case side3 => refine (Kd.R_reads' (e := 3) (base := w.heap.size) (ok := fun k_ => some k_ ≠ (.slice Ao28 t7004.length co28 : Value).ownBlock) (n := t7007.length) (c := co29) ?_).2.2; exact (Kd.R_ext ((Kd.R_mono (Kd.R_far (p := ⟨gb7022, 2, none⟩) (Kd.R_far (p := ⟨gb7022, 1, none⟩) (Kd.R_far (p := ⟨gb7022, 0, none⟩) (Kd.R_types HO7009.out BK7022.out (by decide)) (fun _ hk => hk.2) (.int .i64 t7013)) (fun _ hk => hk.2) (.slice Ao37 t7014.length co37)) (fun _ hk => hk.2) (.slice Ao38 t7017.length co38)) (fun _ h_ => h_.1))))); (case side4 => exact (Kd.R_reads' HO7009.out).2.1); (case side5 => refine (Kd.V_reads' (e := 3) (base := w.heap.size) (ok := fun k_ => ((some k_ ≠ (.slice Ao28 t7004.length co28 : Value).ownBlock ∧ (some k_ ≠ (.slice Ao29 t7007.length co29 : Value).ownBlock ∧ (k_ ≠ gb7001 ∧ k_ ≠ gb7012))) ∧ k_ ≠ gb7022)) (n := t7014.length) (c := co37) ?_).2.2; exact (Kd.V_ext ((Kd.V_mono (Kd.V_far (p := ⟨gb7022, 2, none⟩) (Kd.V_far (p := ⟨gb7022, 1, none⟩) (Kd.V_far (p := ⟨gb7022, 0, none⟩) (Kd.V_mono HO7016.out (fun k_ hk => (⟨hk, hk.2⟩ : _ ∧ k_ ≠ gb7022))) (fun _ hk => hk.2) (.int .i64 t7013)) (fun _ hk => hk.2) (.slice Ao37 t7014.length co37)) (fun _ hk => hk.2) (.slice Ao38 t7017.length co38)) (fun _ h_ => h_.1))))); (case side6 => exact (Kd.V_reads' HO7016.out).2.1); (case side7 => refine (Kd.V_reads' (e := 3) (base := w.heap.size) (ok := fun k_ => ((some k_ ≠ (.slice Ao28 t7004.length co28 : Value).ownBlock ∧ (some k_ ≠ (.slice Ao29 t7007.length co29 : Value).ownBlock ∧ (k_ ≠ gb7001 ∧ k_ ≠ gb7012))) ∧ k_ ≠ gb7022)) (n := t7017.length) (c := co38) ?_).2.2; exact (Kd.V_ext ((Kd.V_mono (Kd.V_far (p := ⟨gb7022, 2, none⟩) (Kd.V_far (p := ⟨gb7022, 1, none⟩) (Kd.V_far (p := ⟨gb7022, 0, none⟩) (Kd.V_mono HO7019.out (fun k_ hk => (⟨hk, hk.2⟩ : _ ∧ k_ ≠ gb7022))) (fun _ hk => hk.2) (.int .i64 t7013)) (fun _ hk => hk.2) (.slice Ao37 t7014.length co37)) (fun _ hk => hk.2) (.slice Ao38 t7017.length co38)) (fun _ h_ => h_.1))))); (case side8 => exact (Kd.V_reads' HO7019.out).2.1); rintro e w40 ⟨rfl, hb⟩; have n0_ := Aside0.mk (Kd.R_below (Kd.R_ext ((Kd.R_mono (Kd.R_far (p := ⟨gb7022, 2, none⟩) (Kd.R_far (p := ⟨gb7022, 1, none⟩) (Kd.R_far (p := ⟨gb7022, 0, none⟩) (Kd.R_types HO7006.out BK7022.out (by decide)) (fun _ hk => hk.2) (.int .i64 t7013)) (fun _ hk => hk.2) (.slice Ao37 t7014.length co37)) (fun _ hk => hk.2) (.slice Ao38 t7017.length co38)) (fun _ h_ => h_.1)))) hb); have n1_ := Aside0.mk (Kd.R_below (Kd.R_ext ((Kd.R_mono (Kd.R_far (p := ⟨gb7022, 2, none⟩) (Kd.R_far (p := ⟨gb7022, 1, none⟩) (Kd.R_far (p := ⟨gb7022, 0, none⟩) (Kd.R_types HO7009.out BK7022.out (by decide)) (fun _ hk => hk.2) (.int .i64 t7013)) (fun _ hk => hk.2) (.slice Ao37 t7014.length co37)) (fun _ hk => hk.2) (.slice Ao38 t7017.length co38)) (fun _ h_ => h_.1)))) hb); have n2_ := Aside0.mk (Kd.V_below (Kd.V_ext ((Kd.V_mono (Kd.V_far (p := ⟨gb7022, 2, none⟩) (Kd.V_far (p := ⟨gb7022, 1, none⟩) (Kd.V_far (p := ⟨gb7022, 0, none⟩) (Kd.V_mono HO7016.out (fun k_ hk => (⟨hk, hk.2⟩ : _ ∧ k_ ≠ gb7022))) (fun _ hk => hk.2) (.int .i64 t7013)) (fun _ hk => hk.2) (.slice Ao37 t7014.length co37)) (fun _ hk => hk.2) (.slice Ao38 t7017.length co38)) (fun _ h_ => h_.1)))) hb); have n3_ := Aside0.mk (Kd.V_below (Kd.V_ext ((Kd.V_mono (Kd.V_far (p := ⟨gb7022, 2, none⟩) (Kd.V_far (p := ⟨gb7022, 1, none⟩) (Kd.V_far (p := ⟨gb7022, 0, none⟩) (Kd.V_mono HO7019.out (fun k_ hk => (⟨hk, hk.2⟩ : _ ∧ k_ ≠ gb7022))) (fun _ hk => hk.2) (.int .i64 t7013)) (fun _ hk => hk.2) (.slice Ao37 t7014.length co37)) (fun _ hk => hk.2) (.slice Ao38 t7017.length co38)) (fun _ h_ => h_.1)))) hb); have n4_ := Aside0.mk (blk_below (blk_extC BK7001.out) hb); have n5_ := Aside0.mk (blk_below (blk_extC BK7012.out) hb); have n6_ := Aside0.mk (blk_below (g := gb7022) (o := .cells #[.int .i64 t7013, .slice Ao37 t7014.length co37, .slice Ao38 t7017.length co38] 44 (0, 0)) (by (with_reducible repeat (first | refine blk_drewN ?_ _ | refine blk_drew ?_ | refine blk_alloc ?_ _)); refine blk_put (cs := #[.int .i64 t7013, .slice Ao37 t7014.length co37, .slice none 0 0]) ?_ 2 _ rfl; (with_reducible repeat (first | refine blk_drewN ?_ _ | refine blk_drew ?_ | refine blk_alloc ?_ _)); refine blk_put (cs := #[.int .i64 t7013, .slice none 0 0, .slice none 0 0]) ?_ 1 _ rfl; (with_reducible repeat (first | refine blk_drewN ?_ _ | refine blk_drew ?_ | refine blk_alloc ?_ _)); refine blk_put (cs := #[.int .i64 0, .slice none 0 0, .slice none 0 0]) ?_ 0 _ rfl; exact blk_ext BK7022.out) hb); clear HO7006; clear HO7009; clear HO7016; clear HO7019; clear BK7001; clear BK7012; clear BK7022; have HO7006 := n0_; have HO7009 := n1_; have HO7016 := n2_; have HO7019 := n3_; have BK7001 := n4_; have BK7012 := n5_; have BK7022 := n6_; replace HB := mvH HB hb; clear n0_ n1_ n2_ n3_ n4_ n5_ n6_; (try clear hb); (try clear hb2); (try clear hk); (try clear hi)) | (go_at_call 32; (with_reducible refine (customslaw38_awake.calls kj3  t7024 _ A22.out).mono ?_); rintro e w41 ⟨rfl, hb⟩; replace HO7006 := mvR HO7006 hb; replace HO7009 := mvR HO7009 hb; replace HO7016 := mvV HO7016 hb; replace HO7019 := mvV HO7019 hb; replace BK7001 := mvB BK7001 hb; replace BK7012 := mvB BK7012 hb; replace BK7022 := mvB BK7022 hb; replace HB := mvH HB hb; (try clear hb); (try clear hb2); (try clear hk); (try clear hi)))
            go_ret
            exact ⟨by first | rfl | (simp [errW_none, errW_some] <;> rfl) | (simp [*, errW_none, errW_some] <;> rfl), below_extB HB.out⟩
          · replace c21 := Bool.eq_false_iff.mpr c21
            subst c21
            have H1 : (none) = some r := by rw [if_neg (show ¬ (false = true) by decide)] at H; exact H
            clear H
            have H := H1
            clear H1
            exact absurd H (by simp)
        · rw [if_neg c18] at H
          exact absurd H (by simp)

end Go.Proofs.Ytfljnggpnndmkaa.Z
