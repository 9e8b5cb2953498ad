/- Written by a program of this session: each Go function as a plain Lean function, and that the machine's call does what it says. Conditions: none but those each theorem states. -/
import Derived.Test.YtfljnggpnndmkaaZ0
import Derived.Test.YtfljnggpnndmkaaZchannelcopied
import Derived.Test.YtfljnggpnndmkaaZchannelhas
import Derived.Test.YtfljnggpnndmkaaZchannelcount
import Derived.Test.YtfljnggpnndmkaaZslicesDeleteintint
namespace Go.Proofs.Ytfljnggpnndmkaa.Z
open Go.RowKit Go.Proofs.YtfljnggpnndmkaaW.PrintWords Go.Proofs.YtfljnggpnndmkaaW.PrintLast Go.Proofs.YtfljnggpnndmkaaW.PrintMore
attribute [local go_sem] max2_int min2_int max_two min_two max_three min_three max_four min_four   -- for this text's walks alone
set_option linter.unusedVariables false
set_option linter.unusedSimpArgs false

/-! ### channel_Deliver: function 39 -/
def channel_Deliver.j0 : Nat → Int → Int → Bool → Int → List Int → List Int → Option (Int × List Int × List Int × Int × Int)
  | 0, _, _, _, _, _, _ => none
  | k + 1, x1, x2, x19, x39002000, x39002001, x39002002 => if x19 = true then (some (0, ([] : List Int), ([] : List Int), 0, 2)) else ((channel_copied.f x39002000 x39002001 x39002002).bind fun bt39005 => (if 0 ≤ x1 then (if x1 < (bt39005.2.1.length : Int) then ((slices_Delete_int_int.f bt39005.2.1 x1 (wrap64 (x1 + 1))).bind fun t39013 => (if (rd bt39005.2.1 x1) = (wrap64 (x2 + 1)) then (if bt39005.2.2.length < 17592186044416 then (some (bt39005.1, t39013, (bt39005.2.2 ++ [wrap64 (x2 + 1)]), rd bt39005.2.1 x1, 0)) else (none)) else (if bt39005.2.2.length < 17592186044416 then (some (bt39005.1, t39013, (bt39005.2.2 ++ [x2]), rd bt39005.2.1 x1, 0)) else (none)))) else (none)) else (none)))
def channel_Deliver.f (k : Nat) (a0_0 : Int) (l0_1 : List Int) (l0_2 : List Int) (a1 : Int) (a2 : Int) : Option (Int × List Int × List Int × Int × Int) := (channel_has.f l0_1 a1).bind fun t39003 => (if t39003 = true then ((channel_count.f a2).bind fun t39004 => (channel_Deliver.j0 k a1 a2 (!t39004) a0_0 l0_1 l0_2)) else (channel_Deliver.j0 k a1 a2 true a0_0 l0_1 l0_2))
theorem channel_Deliver.mono_l : ∀ k, (∀ y0 y1 y2 y3 y4 y5, LeO (channel_Deliver.j0 k y0 y1 y2 y3 y4 y5) (channel_Deliver.j0 (k + 1) y0 y1 y2 y3 y4 y5))
  | 0 => fun _ _ _ _ _ _ r h => by simp [channel_Deliver.j0] at h
  | k + 1 => by
    have ih0 := channel_Deliver.mono_l k
    · intro y0 y1 y2 y3 y4 y5
      unfold channel_Deliver.j0
      repeat' first
      | (with_reducible exact ih0 _ _ _ _ _ _)
      | (with_reducible exact LeO.refl _)
      | (with_reducible exact LeO.none _)
      | (with_reducible refine LeO.ite ?_ ?_)
      | (with_reducible refine LeO.bind ?_ (fun _ => ?_))
      | exact ih0 _ _ _ _ _ _
      | exact LeO.none _
      | refine LeO.ite ?_ ?_
      | refine LeO.bind ?_ (fun _ => ?_)
theorem channel_Deliver.mono : ∀ a0 a1 a2 a3 a4 k, LeO (channel_Deliver.f k a0 a1 a2 a3 a4) (channel_Deliver.f (k + 1) a0 a1 a2 a3 a4) := by
  intro a0 a1 a2 a3 a4 k
  have ih0 := channel_Deliver.mono_l k
  unfold channel_Deliver.f
  repeat' first
      | (with_reducible exact ih0 _ _ _ _ _ _)
      | (with_reducible exact LeO.refl _)
      | (with_reducible exact LeO.none _)
      | (with_reducible refine LeO.ite ?_ ?_)
      | (with_reducible refine LeO.bind ?_ (fun _ => ?_))
      | exact ih0 _ _ _ _ _ _
      | exact LeO.none _
      | refine LeO.ite ?_ ?_
      | refine LeO.bind ?_ (fun _ => ?_)
set_option maxHeartbeats 8000000 in
set_option maxRecDepth 100000 in
theorem channel_Deliver.calls (k : Nat) (a0_0 : Int) (A0_1 : Option Addr) (c0_1 : Nat) (l0_1 : List Int) (A0_2 : Option Addr) (c0_2 : Nat) (l0_2 : List Int) (a1 : Int) (a2 : Int) (r1 : Int) (r2 : List Int) (r3 : List Int) (r4 : Int) (r5 : Int) (w : World) (hr0_1 : Kd.C (Kd.int .i64) w A0_1 l0_1.length l0_1) (hc0_1 : l0_1.length ≤ c0_1) (hr0_2 : Kd.C (Kd.int .i64) w A0_2 l0_2.length l0_2) (hc0_2 : l0_2.length ≤ c0_2) (h : channel_Deliver.f k a0_0 l0_1 l0_2 a1 a2 = some (r1, r2, r3, r4, r5)) :
    Calls Try.prog 39 #[.agg #[.int .i64 a0_0, .slice A0_1 l0_1.length c0_1, .slice A0_2 l0_2.length c0_2], .int .i64 a1, .int .i64 a2] w fun e w' => ∃ v1_ v2_ : Value, e = .returned (.tuple #[.agg #[.int .i64 r1, v1_, v2_], .int .i64 r4, .int .i64 r5]) ∧ Kd.R (Kd.int .i64) 3 w' w.heap.size (fun k_ => some k_ ≠ (v2_ : Value).ownBlock) v1_ r2 ∧ Kd.R (Kd.int .i64) 3 w' w.heap.size (fun k_ => some k_ ≠ (v1_ : Value).ownBlock) v2_ r3 ∧ Below w.heap.size w w' := by
  have hu44 := Try.underlying44
  have HR0_1 := Aside0.mk hr0_1
  have HC0_1 := Aside0.mk hc0_1
  clear hr0_1 hc0_1
  have HR0_2 := Aside0.mk hr0_2
  have HC0_2 := Aside0.mk hc0_2
  clear hr0_2 hc0_2
  have HB := Aside0.mk (Below.refl w.heap.size w)
  have H : ((channel_has.f l0_1 a1).bind fun t39003 => (if t39003 = true then ((channel_count.f a2).bind fun t39004 => (channel_Deliver.j0 k a1 a2 (!t39004) a0_0 l0_1 l0_2)) else (channel_Deliver.j0 k a1 a2 true a0_0 l0_1 l0_2))) = some (r1, r2, r3, r4, r5) := h
  clear h
  have HC4 := Aside0.mk H
  clear H
  go_enter Try.func39, Try.ntmps39
  go_upto_region 1 with (first | ((with_reducible refine gate_dst (N := 3) rfl ?_); refine box_event ?hg (N := 3) ?hd (cs := #[.int .i64 a0_0, .slice A0_1 l0_1.length c0_1, .slice A0_2 l0_2.length c0_2]) (t := 44) ?hr ?_; (case hd => rfl); (case hg => rfl); (case hr => first | (go_simp; done) | (go_simp; rfl)); intro gb39001 hg w5 hbox hb; have n1_ := Aside0.mk (hbox); have n2_ := Aside0.mk ((by rw [hg]; exact (below_size (below_ext HB.out)) : w.heap.size ≤ gb39001)); have n3_ := Aside0.mk ((by rw [hg]; exact (below_size (below_ext HB.out)) : w.heap.size ≤ gb39001)); have BK39001 := n1_; have GW39001 := n2_; have GE39001 := n3_; have GI39001 := GE_.mk GE39001.out; replace HB := mvH HB hb; clear n1_ n2_ n3_; clear hb hbox hg) | ((with_reducible refine gate_dst (N := 6) rfl ?_); refine box_event ?hg (N := 6) ?hd (cs := #[.int .i64 0, .slice none 0 0, .slice none 0 0]) (t := 44) ?hr ?_; (case hd => rfl); (case hg => rfl); (case hr => first | (go_simp; done) | (go_simp; rfl)); intro gb39002 hg w6 hbox hb; have n2_ := Aside0.mk (hbox); have n3_ := Aside0.mk ((by rw [hg]; exact (below_size (below_extB HB.out)) : w.heap.size ≤ gb39002)); have n4_ := Aside0.mk ((by rw [hg]; exact (below_size (below_extB HB.out)) : w.heap.size ≤ gb39002)); have n5_ := Aside0.mk ((by rw [hg]; exact Nat.ne_of_lt (blk_lt (blk_ext BK39001.out)) : gb39001 ≠ gb39002)); have n6_ := Aside0.mk ((by rw [hg]; exact Nat.ne_of_gt (blk_lt (blk_ext BK39001.out)) : gb39002 ≠ gb39001)); have BK39002 := n2_; have GW39002 := n3_; have GE39002 := n4_; have GI39002 := GE_.mk GE39002.out; have NB39001_39002 := n5_; have NI39001_39002 := NE_.mk NB39001_39002.out; have NB39002_39001 := n6_; have NI39002_39001 := NE_.mk NB39002_39001.out; replace BK39001 := mvB BK39001 hb; replace HB := mvH HB hb; clear n2_ n3_ n4_ n5_ n6_; clear hb hbox hg))
  (try simp only [Act.put, List.setIfInBounds_toArray, List.set_cons_zero, List.set_cons_succ])
  go_cut [19] (fun v19 wc => ∃ (kq : Nat) (x19_3 : Bool), v19 = .bool x19_3 ∧ Aside0 (channel_Deliver.j0 kq a1 a2 x19_3 a0_0 l0_1 l0_2 = some (r1, r2, r3, r4, r5)) ∧ Aside0 (kq ≤ k) ∧ Aside0 (wc.heap[gb39001]? = some (.cells #[.int .i64 a0_0, (.slice A0_1 l0_1.length c0_1), (.slice A0_2 l0_2.length c0_2)] 44 (0, 0))) ∧ Aside0 (wc.heap[gb39002]? = some (.cells #[.int .i64 0, (.slice none 0 0), (.slice none 0 0)] 44 (0, 0))) ∧ Aside0 (Below w.heap.size w wc))
  case first =>
    have H := HC4.out
    clear HC4
    replace H := Option.bind_eq_some_iff.mp H
    obtain ⟨t39003, A70, H⟩ := H
    replace H : (if t39003 = true then ((channel_count.f a2).bind fun t39004 => (channel_Deliver.j0 k a1 a2 (!t39004) a0_0 l0_1 l0_2)) else (channel_Deliver.j0 k a1 a2 true a0_0 l0_1 l0_2)) = some (r1, r2, r3, r4, r5) := H
    have A7 := Aside0.mk A70
    clear A70
    by_cases c8 : t39003 = true
    · subst c8
      have H1 : ((channel_count.f a2).bind fun t39004 => (channel_Deliver.j0 k a1 a2 (!t39004) a0_0 l0_1 l0_2)) = some (r1, r2, r3, r4, r5) := by rw [if_pos rfl] at H; exact H
      clear H
      have H := H1
      clear H1
      replace H := Option.bind_eq_some_iff.mp H
      obtain ⟨t39004, A90, H⟩ := H
      replace H : (channel_Deliver.j0 k a1 a2 (!t39004) a0_0 l0_1 l0_2) = some (r1, r2, r3, r4, r5) := H
      have A9 := Aside0.mk A90
      clear A90
      have H' := Aside0.mk H
      clear H
      have hnb10 := NB39001_39002.out
      have hnc10 := NB39002_39001.out
      have hcz11_0 : w6.cell? ⟨gb39001, 0, none⟩ = some (.int .i64 a0_0) := (blk_cell BK39001.out 0).trans rfl
      have hcz11_1 : w6.cell? ⟨gb39001, 1, none⟩ = some (.slice A0_1 l0_1.length c0_1) := (blk_cell BK39001.out 1).trans rfl
      have hcz11_2 : w6.cell? ⟨gb39001, 2, none⟩ = some (.slice A0_2 l0_2.length c0_2) := (blk_cell BK39001.out 2).trans rfl
      have hfz11_0 := blk_frozen BK39001.out 0
      have hfz11_1 := blk_frozen BK39001.out 1
      have hfz11_2 := blk_frozen BK39001.out 2
      go_wp2_with (first | ((with_reducible refine gate_callee (f := 71) rfl ?_); refine goesL_ (some 13) rfl rfl Try.func71 (by kernel_rfl) rfl #[.slice A0_1 l0_1.length c0_1, .int .i64 a1] rfl (by (try simp only [List.map_toArray, List.map_cons, List.map_nil]); first | done | rfl | (simp only [List.length_drop, List.length_take]; rfl)) ?_; (with_reducible refine (channel_has.calls _ _ l0_1 a1 true _ ?side1 ?side2 A7.out).mono ?_); (case side1 => repeat (first | exact (Kd.C_below HR0_1.out HB.out) | (with_reducible refine Kd.C_alloc ?_ _) | (with_reducible refine Kd.C_drewN ?_ _) | (with_reducible refine Kd.C_drew ?_))); (case side2 => exact HC0_1.out); rintro e w' ⟨rfl, ⟨nd, rfl⟩⟩; refine ⟨_, rfl, ?_⟩) | (go_at_call 72; (with_reducible refine (channel_count.calls a2 t39004 _ A9.out).mono ?_); rintro e w' ⟨rfl, ⟨nd, rfl⟩⟩))
      go_meet
      case rel => exact ⟨_, (!t39004), (by first | rfl | (simp; done) | (simp [*]; done)), H', ⟨by first | omega | exact Nat.le_refl _⟩, ⟨blk_ext BK39001.out⟩, ⟨blk_ext BK39002.out⟩, ⟨below_extB HB.out⟩⟩
    · replace c8 := Bool.eq_false_iff.mpr c8
      subst c8
      have H1 : (channel_Deliver.j0 k a1 a2 true a0_0 l0_1 l0_2) = some (r1, r2, r3, r4, r5) := by rw [if_neg (show ¬ (false = true) by decide)] at H; exact H
      clear H
      have H := H1
      clear H1
      have H' := Aside0.mk H
      clear H
      have hnb12 := NB39001_39002.out
      have hnc12 := NB39002_39001.out
      have hcz13_0 : w6.cell? ⟨gb39001, 0, none⟩ = some (.int .i64 a0_0) := (blk_cell BK39001.out 0).trans rfl
      have hcz13_1 : w6.cell? ⟨gb39001, 1, none⟩ = some (.slice A0_1 l0_1.length c0_1) := (blk_cell BK39001.out 1).trans rfl
      have hcz13_2 : w6.cell? ⟨gb39001, 2, none⟩ = some (.slice A0_2 l0_2.length c0_2) := (blk_cell BK39001.out 2).trans rfl
      have hfz13_0 := blk_frozen BK39001.out 0
      have hfz13_1 := blk_frozen BK39001.out 1
      have hfz13_2 := blk_frozen BK39001.out 2
      go_wp2_with (first | ((with_reducible refine gate_callee (f := 71) rfl ?_); refine goesL_ (some 13) rfl rfl Try.func71 (by kernel_rfl) rfl #[.slice A0_1 l0_1.length c0_1, .int .i64 a1] rfl (by (try simp only [List.map_toArray, List.map_cons, List.map_nil]); first | done | rfl | (simp only [List.length_drop, List.length_take]; rfl)) ?_; (with_reducible refine (channel_has.calls _ _ l0_1 a1 false _ ?side1 ?side2 A7.out).mono ?_); (case side1 => repeat (first | exact (Kd.C_below HR0_1.out HB.out) | (with_reducible refine Kd.C_alloc ?_ _) | (with_reducible refine Kd.C_drewN ?_ _) | (with_reducible refine Kd.C_drew ?_))); (case side2 => exact HC0_1.out); rintro e w' ⟨rfl, ⟨nd, rfl⟩⟩; refine ⟨_, rfl, ?_⟩))
      go_meet
      case rel => exact ⟨_, (true), (by first | rfl | (simp; done) | (simp [*]; done)), H', ⟨by first | omega | exact Nat.le_refl _⟩, ⟨blk_ext BK39001.out⟩, ⟨blk_ext BK39002.out⟩, ⟨below_extB HB.out⟩⟩
  case rest =>
    clear HC4
    try clear c1
    try clear p2
    try clear c3
    try clear c7
    try clear c8
    try clear c10
    try clear c12
    try clear hcz11_0
    try clear hcz11_1
    try clear hcz11_2
    try clear hcz13_0
    try clear hcz13_1
    try clear hcz13_2
    try clear hfz11_0
    try clear hfz11_1
    try clear hfz11_2
    try clear hfz13_0
    try clear hfz13_1
    try clear hfz13_2
    obtain ⟨kq, x19_3, rfl, HA, HJ3, BK39001, BK39002, HB⟩ := hcut
    cases kq with
    | zero => exact absurd HA.out (by simp [channel_Deliver.j0])
    | succ kj3 =>
      have H := HA.out
      clear HA
      simp only [channel_Deliver.j0] at H
      by_cases c14 : x19_3 = true
      · subst c14
        have H1 : (some (0, ([] : List Int), ([] : List Int), 0, 2)) = some (r1, r2, r3, r4, r5) := by rw [if_pos rfl] at H; exact H
        clear H
        have H := H1
        clear H1
        simp only [Option.some.injEq, Prod.mk.injEq] at H
        obtain ⟨rfl, rfl, rfl, rfl, rfl⟩ := H
        have hnb15 := NB39002_39001.out
        have hnc15 := NB39001_39002.out
        have hcz16_0 : wc.cell? ⟨gb39002, 0, none⟩ = some (.int .i64 0) := (blk_cell BK39002.out 0).trans rfl
        have hcz16_1 : wc.cell? ⟨gb39002, 1, none⟩ = some (.slice none 0 0) := (blk_cell BK39002.out 1).trans rfl
        have hcz16_2 : wc.cell? ⟨gb39002, 2, none⟩ = some (.slice none 0 0) := (blk_cell BK39002.out 2).trans rfl
        have hfz16_0 := blk_frozen BK39002.out 0
        have hfz16_1 := blk_frozen BK39002.out 1
        have hfz16_2 := blk_frozen BK39002.out 2
        go_wp2
        refine bodyPost_ret (results_ctt rfl _ _ gb39002 44 #[.int .i64 0, .slice none 0 0, .slice none 0 0] (0, 0) _ rfl (by (with_reducible repeat (first | refine blk_drewN ?_ _ | refine blk_drew ?_ | refine blk_alloc ?_ _)); refine blk_put (cs := #[.int .i64 0, .slice none 0 0, .slice none 0 0]) ?_ 2 _ rfl; (with_reducible repeat (first | refine blk_drewN ?_ _ | refine blk_drew ?_ | refine blk_alloc ?_ _)); refine blk_put (cs := #[.int .i64 0, .slice none 0 0, .slice none 0 0]) ?_ 1 _ rfl; (with_reducible repeat (first | refine blk_drewN ?_ _ | refine blk_drew ?_ | refine blk_alloc ?_ _)); refine blk_put (cs := #[.int .i64 0, .slice none 0 0, .slice none 0 0]) ?_ 0 _ rfl; exact blk_ext BK39002.out) Try.underlying44 rfl (by kernel_rfl)) rfl ?_
        exact ⟨_, _, by first | rfl | (simp [errW_none, errW_some] <;> rfl) | (simp [*, errW_none, errW_some] <;> rfl), by first | exact Kd.R_nil _ _ _ _ _ | exact Kd.N_nil _ _ _ _ _ | exact Kd.V_nil _ _ _ _ _ | exact Kd.Q_nil _ _ _ _ _ | exact Kd.S_nil _ _ _ _ _, by first | exact Kd.R_nil _ _ _ _ _ | exact Kd.N_nil _ _ _ _ _ | exact Kd.V_nil _ _ _ _ _ | exact Kd.Q_nil _ _ _ _ _ | exact Kd.S_nil _ _ _ _ _, below_extB HB.out⟩
      · replace c14 := Bool.eq_false_iff.mpr c14
        subst c14
        have H1 : ((channel_copied.f a0_0 l0_1 l0_2).bind fun bt39005 => (if 0 ≤ a1 then (if a1 < (bt39005.2.1.length : Int) then ((slices_Delete_int_int.f bt39005.2.1 a1 (wrap64 (a1 + 1))).bind fun t39013 => (if (rd bt39005.2.1 a1) = (wrap64 (a2 + 1)) then (if bt39005.2.2.length < 17592186044416 then (some (bt39005.1, t39013, (bt39005.2.2 ++ [wrap64 (a2 + 1)]), rd bt39005.2.1 a1, 0)) else (none)) else (if bt39005.2.2.length < 17592186044416 then (some (bt39005.1, t39013, (bt39005.2.2 ++ [a2]), rd bt39005.2.1 a1, 0)) else (none)))) else (none)) else (none))) = some (r1, r2, r3, r4, r5) := by rw [if_neg (show ¬ (false = true) by decide)] at H; exact H
        clear H
        have H := H1
        clear H1
        replace H := Option.bind_eq_some_iff.mp H
        obtain ⟨⟨t39005, t39006, t39009⟩, A170, H⟩ := H
        replace H : (if 0 ≤ a1 then (if a1 < (t39006.length : Int) then ((slices_Delete_int_int.f t39006 a1 (wrap64 (a1 + 1))).bind fun t39013 => (if (rd t39006 a1) = (wrap64 (a2 + 1)) then (if t39009.length < 17592186044416 then (some (t39005, t39013, (t39009 ++ [wrap64 (a2 + 1)]), rd t39006 a1, 0)) else (none)) else (if t39009.length < 17592186044416 then (some (t39005, t39013, (t39009 ++ [a2]), rd t39006 a1, 0)) else (none)))) else (none)) else (none)) = some (r1, r2, r3, r4, r5) := H
        have A17 := Aside0.mk A170
        clear A170
        by_cases c18 : 0 ≤ a1
        · rw [if_pos c18] at H
          have c18b0 : decide (0 ≤ a1) = true := decide_eq_true c18
          clear c18
          replace H := if_some H; obtain ⟨c19, H⟩ := H
          have c19b0 : decide (a1 < (t39006.length : Int)) = true := decide_eq_true c19
          clear c19
          replace H := Option.bind_eq_some_iff.mp H
          obtain ⟨t39013, A200, H⟩ := H
          replace H : (if (rd t39006 a1) = (wrap64 (a2 + 1)) then (if t39009.length < 17592186044416 then (some (t39005, t39013, (t39009 ++ [wrap64 (a2 + 1)]), rd t39006 a1, 0)) else (none)) else (if t39009.length < 17592186044416 then (some (t39005, t39013, (t39009 ++ [a2]), rd t39006 a1, 0)) else (none))) = some (r1, r2, r3, r4, r5) := H
          have A20 := Aside0.mk A200
          clear A200
          by_cases c21 : (rd t39006 a1) = (wrap64 (a2 + 1))
          · rw [if_pos c21] at H
            have c21b0 : ((rd t39006 a1) == (wrap64 (a2 + 1))) = true := beq_iff_eq.mpr c21
            have c21b1 : ((rd t39006 a1) != (wrap64 (a2 + 1))) = false := bne_eq_false_iff_eq.mpr c21
            clear c21
            replace H := if_some H; obtain ⟨c22, H⟩ := H
            have LMc22 := Aside0.mk c22
            clear c22
            obtain ⟨y39016, hy39016⟩ : ∃ y_ : List Int, y_ = (t39009 ++ [wrap64 (a2 + 1)]) := ⟨_, rfl⟩
            replace H : (some (t39005, t39013, y39016, rd t39006 a1, 0)) = some (r1, r2, r3, r4, r5) := by first | (rw [hy39016]; with_reducible exact H) | (have H2_ := (Option.bind_some _ _).symm.trans H; rw [hy39016]; with_reducible exact H2_) | (have H2_ := (Option.bind_some _ _).symm.trans H; with_reducible exact H2_) | with_reducible exact H | (rw [hy39016]; exact H) | exact H
            have Ny39016 := Aside0.mk hy39016
            clear hy39016
            simp only [Option.some.injEq, Prod.mk.injEq] at H
            obtain ⟨rfl, rfl, rfl, rfl, rfl⟩ := H
            have hnb23 := NB39001_39002.out
            have hnc23 := NB39002_39001.out
            have hcz24_0 : wc.cell? ⟨gb39001, 0, none⟩ = some (.int .i64 a0_0) := (blk_cell BK39001.out 0).trans rfl
            have hcz24_1 : wc.cell? ⟨gb39001, 1, none⟩ = some (.slice A0_1 l0_1.length c0_1) := (blk_cell BK39001.out 1).trans rfl
            have hcz24_2 : wc.cell? ⟨gb39001, 2, none⟩ = some (.slice A0_2 l0_2.length c0_2) := (blk_cell BK39001.out 2).trans rfl
            have hfz24_0 := blk_frozen BK39001.out 0
            have hfz24_1 := blk_frozen BK39001.out 1
            have hfz24_2 := blk_frozen BK39001.out 2
            go_wp2_with (first | ((with_reducible refine gate_callee (f := 70) rfl ?_); refine goesL_ (some 22) rfl rfl Try.func70 (by kernel_rfl) rfl #[.agg #[.int .i64 a0_0, .slice A0_1 l0_1.length c0_1, .slice A0_2 l0_2.length c0_2]] rfl (by (try simp only [List.map_toArray, List.map_cons, List.map_nil]); first | done | rfl | (simp only [List.length_drop, List.length_take]; rfl)) ?_; (with_reducible refine (channel_copied.calls a0_0 _ _ l0_1 _ _ l0_2 t39005 t39006 t39009 _ ?side1 ?side2 ?side3 ?side4 A17.out).mono ?_); (case side1 => repeat (first | exact (Kd.C_below HR0_1.out HB.out) | (with_reducible refine Kd.C_alloc ?_ _) | (with_reducible refine Kd.C_drewN ?_ _) | (with_reducible refine Kd.C_drew ?_))); (case side2 => exact HC0_1.out); (case side3 => repeat (first | exact (Kd.C_below HR0_2.out HB.out) | (with_reducible refine Kd.C_alloc ?_ _) | (with_reducible refine Kd.C_drewN ?_ _) | (with_reducible refine Kd.C_drew ?_))); (case side4 => exact HC0_2.out); rintro e w25 ⟨v39007, v39010, rfl, ho0, ho1, hb⟩; refine ⟨_, rfl, ?_⟩; have n0_ := Aside0.mk (Kd.R_lower ho0 (below_size (below_extB HB.out))); have n1_ := Aside0.mk (Kd.R_lower ho1 (below_size (below_extB HB.out))); have HO39008 := n0_; have HO39011 := n1_; replace BK39001 := mvB BK39001 hb; replace BK39002 := mvB BK39002 hb; replace HB := mvH HB hb; clear n0_ n1_; (try clear hb); (try clear hb2); (try clear hk); (try clear hi); (try clear ho0); (try clear ho1); have hcz26_0 : w25.cell? ⟨gb39001, 0, none⟩ = some (.int .i64 a0_0) := (blk_cell BK39001.out 0).trans rfl; have hcz26_1 : w25.cell? ⟨gb39001, 1, none⟩ = some (.slice A0_1 l0_1.length c0_1) := (blk_cell BK39001.out 1).trans rfl; have hcz26_2 : w25.cell? ⟨gb39001, 2, none⟩ = some (.slice A0_2 l0_2.length c0_2) := (blk_cell BK39001.out 2).trans rfl; have hfz26_0 := blk_frozen BK39001.out 0; have hfz26_1 := blk_frozen BK39001.out 1; have hfz26_2 := blk_frozen BK39001.out 2; obtain ⟨Ao27, co27, eo27⟩ := Kd.R_slice HO39008.out; subst eo27; obtain ⟨Ao28, co28, eo28⟩ := Kd.R_slice HO39011.out; subst eo28) | ((with_reducible refine gate_store (t := 44) (p := 3) rfl ?_); refine store_event (t := 44) (p := 3) (v := ?vo_w29) (w1 := (((w25.setCell ⟨gb39001, 0, none⟩ (.int .i64 t39005)).setCell ⟨gb39001, 1, none⟩ (.slice Ao27 t39006.length co27)).setCell ⟨gb39001, 2, none⟩ (.slice Ao28 t39009.length co28))) ?hg ?ho ?hn ?hr ?_; (case ho => rfl); (case hg => rfl); (case hn => rfl); (case hr => first | (go_simp; done) | (go_simp; rfl)); intro w29 hw; have n0_ : Aside0 (Kd.R (Kd.int .i64) 3 w29 w.heap.size (fun k_ => some k_ ≠ (.slice Ao28 t39009.length co28 : Value).ownBlock) (.slice Ao27 t39006.length co27) t39006) := ⟨(by rw [hw]; exact (Kd.R_ext (Kd.R_mono (Kd.R_far (p := ⟨gb39001, 2, none⟩) (Kd.R_far (p := ⟨gb39001, 1, none⟩) (Kd.R_far (p := ⟨gb39001, 0, none⟩) (Kd.R_types HO39008.out BK39001.out (by decide)) (fun _ hk => hk.2) (.int .i64 t39005)) (fun _ hk => hk.2) (.slice Ao27 t39006.length co27)) (fun _ hk => hk.2) (.slice Ao28 t39009.length co28)) (fun _ hk => hk.1))))⟩; have n1_ : Aside0 (Kd.R (Kd.int .i64) 3 w29 w.heap.size (fun k_ => some k_ ≠ (.slice Ao27 t39006.length co27 : Value).ownBlock) (.slice Ao28 t39009.length co28) t39009) := ⟨(by rw [hw]; exact (Kd.R_ext (Kd.R_mono (Kd.R_far (p := ⟨gb39001, 2, none⟩) (Kd.R_far (p := ⟨gb39001, 1, none⟩) (Kd.R_far (p := ⟨gb39001, 0, none⟩) (Kd.R_types HO39011.out BK39001.out (by decide)) (fun _ hk => hk.2) (.int .i64 t39005)) (fun _ hk => hk.2) (.slice Ao27 t39006.length co27)) (fun _ hk => hk.2) (.slice Ao28 t39009.length co28)) (fun _ hk => hk.1))))⟩; have n2_ : Aside0 (w29.heap[gb39001]? = some (.cells #[.int .i64 t39005, .slice Ao27 t39006.length co27, .slice Ao28 t39009.length co28] 44 (0, 0))) := ⟨(by rw [hw]; exact (by (with_reducible repeat (first | refine blk_drewN ?_ _ | refine blk_drew ?_ | refine blk_alloc ?_ _)); refine blk_put (cs := #[.int .i64 t39005, .slice Ao27 t39006.length co27, .slice A0_2 l0_2.length c0_2]) ?_ 2 _ rfl; (with_reducible repeat (first | refine blk_drewN ?_ _ | refine blk_drew ?_ | refine blk_alloc ?_ _)); refine blk_put (cs := #[.int .i64 t39005, .slice A0_1 l0_1.length c0_1, .slice A0_2 l0_2.length c0_2]) ?_ 1 _ rfl; (with_reducible repeat (first | refine blk_drewN ?_ _ | refine blk_drew ?_ | refine blk_alloc ?_ _)); refine blk_put (cs := #[.int .i64 a0_0, .slice A0_1 l0_1.length c0_1, .slice A0_2 l0_2.length c0_2]) ?_ 0 _ rfl; exact blk_ext BK39001.out))⟩; have n3_ : Aside0 (w29.heap[gb39002]? = some (.cells #[.int .i64 0, .slice none 0 0, .slice none 0 0] 44 (0, 0))) := ⟨(by rw [hw]; exact (blk_extC BK39002.out))⟩; have n4_ : Aside0 (Below w.heap.size w w29) := ⟨(by rw [hw]; exact (below_extB HB.out))⟩; clear hw; clear HO39008; clear HO39011; clear BK39001; clear BK39002; clear HB; have HO39008 := n0_; have HO39011 := n1_; have BK39001 := n2_; have BK39002 := n3_; have HB := n4_; clear n0_ n1_ n2_ n3_ n4_; have hcz30_0 : w29.cell? ⟨gb39001, 0, none⟩ = some (.int .i64 t39005) := (blk_cell BK39001.out 0).trans rfl; have hcz30_1 : w29.cell? ⟨gb39001, 1, none⟩ = some (.slice Ao27 t39006.length co27) := (blk_cell BK39001.out 1).trans rfl; have hcz30_2 : w29.cell? ⟨gb39001, 2, none⟩ = some (.slice Ao28 t39009.length co28) := (blk_cell BK39001.out 2).trans rfl; have hfz30_0 := blk_frozen BK39001.out 0; have hfz30_1 := blk_frozen BK39001.out 1; have hfz30_2 := blk_frozen BK39001.out 2; have p39012 : 0 ≤ (a1 : Int) := of_decide_eq_true (by first | (with_reducible assumption) | assumption); have q39012 : a1 < (t39006.length : Int) := of_decide_eq_true (by first | (with_reducible assumption) | assumption); obtain ⟨ad39012, e39012, hx39012_0⟩ := Kd.at_int (Kd.R_reads' HO39008.out).2.2 a1 p39012 q39012; cases e39012; replace p39012 := eq_true p39012; replace q39012 := eq_true q39012) | ((with_reducible refine gate_callee (f := 73) rfl ?_); refine goesL_ (some 33) rfl rfl Try.func73 (by kernel_rfl) rfl #[.slice (some ad39012) t39006.length co27, .int .i64 a1, .int .i64 (wrap64 (a1 + 1))] rfl (by (try simp only [List.map_toArray, List.map_cons, List.map_nil]); first | done | rfl | (simp only [List.length_drop, List.length_take]; rfl)) ?_; (with_reducible refine (slices_Delete_int_int.calls (fun k_ => some k_ = (.slice (some ad39012) t39006.length co27 : Value).ownBlock) (.slice (some ad39012) t39006.length co27) t39006 a1 (wrap64 (a1 + 1)) t39013 w _ ?side1 ?side2 A20.out).mono ?_); (case side1 => repeat (first | (with_reducible first | exact HB.out | apply bA | apply bN | apply b1 | refine bS ?_ GE39001.out | refine bS ?_ GE39002.out) | exact HB.out)); (case side2 => exact Kd.R_tight rfl HO39008.out); rintro e w31 ⟨v39014, rfl, ho0, hb, hkp⟩; refine ⟨_, rfl, ?_⟩; have n0_ := Aside0.mk (blk_kept (blk_ext BK39001.out) hkp (fun hs_ => (fun e_ => (Kd.R_ne HO39008.out BK39001.out (by decide)) e_) hs_)); have n1_ := Aside0.mk (blk_kept (blk_ext BK39002.out) hkp (fun hs_ => (fun e_ => (Kd.R_ne HO39008.out BK39002.out (by decide)) e_) hs_)); have n2_ := Aside0.mk (Kd.R_mono (ok' := fun k_ => some k_ ≠ (v39014 : Value).ownBlock) (Kd.R_keptB (HO39011.out) hkp (fun k_ hk_ hs_ => (hk_) hs_)) (fun k_ hk_ => fun e_ => Or.elim (ho0.1 k_ e_.symm) (fun hs_ => hk_.2.1 hs_) (fun hn_ => Nat.not_le.2 hk_.2.2 hn_))); have n3_ := Aside0.mk (Kd.R_mono (ok' := fun k_ => some k_ ≠ (.slice Ao28 t39009.length co28 : Value).ownBlock) ho0 (fun k_ hk_ => Or.elim hk_ (fun hs_ => fun e_ => (((HO39011.out).1 k_ e_.symm)) hs_) (fun hn_ => (Kd.fresh' (Kd.R_lt (Kd.R_ext HO39011.out)) k_ hn_)))); have n4_ := Aside0.mk (hb); clear BK39001; clear BK39002; clear HO39011; clear HB; clear HO39008; have BK39001 := n0_; have BK39002 := n1_; have HO39011 := n2_; have HO39015 := n3_; have HB := n4_; clear n0_ n1_ n2_ n3_ n4_; (try clear hb); (try clear hkp); (try clear ho0); obtain ⟨Ao32, co32, eo32⟩ := Kd.R_slice HO39015.out; subst eo32; have hcz33_0 : w31.cell? ⟨gb39001, 0, none⟩ = some (.int .i64 t39005) := (blk_cell BK39001.out 0).trans rfl; have hcz33_1 : w31.cell? ⟨gb39001, 1, none⟩ = some (.slice (some ad39012) t39006.length co27) := (blk_cell BK39001.out 1).trans rfl; have hcz33_2 : w31.cell? ⟨gb39001, 2, none⟩ = some (.slice Ao28 t39009.length co28) := (blk_cell BK39001.out 2).trans rfl; have hfz33_0 := blk_frozen BK39001.out 0; have hfz33_1 := blk_frozen BK39001.out 1; have hfz33_2 := blk_frozen BK39001.out 2) | ((with_reducible refine gate_builtin (b := .append) (xs := #[.tmp 42, .tmp 44]) rfl ?_); at_builtin; refine Kd.R_append (Kd.int .i64) (w0 := w) w.heap.size rfl (.tmp 42) (.tmp 44) 42 3 (.int .i64 0) 8 rfl Try.underlying42 info3 rfl (by decide) (by omega) (.slice Ao28 t39009.length co28) t39009 (wrap64 (a2 + 1)) [.int .i64 (wrap64 (a2 + 1))] (fun k_ => some k_ ≠ (.slice Ao32 t39013.length co32 : Value).ownBlock) (fun _ => False) rfl (by first | (go_simp; done) | (go_simp; rfl)) ?aP (fun _ hk => hk.elim) ?aF ?aO ?aB ?aS ?aL ?_; (case aP => exact rfl); (case aB => exact (below_extB HB.out)); (case aF => exact (fun k_ hk => Kd.fresh' (Kd.R_lt (Kd.R_ext ((Kd.R_mono (Kd.R_far (p := ⟨gb39001, 1, none⟩) (Kd.R_types HO39015.out BK39001.out (by decide)) (fun _ hk => hk.2) (.slice Ao32 t39013.length co32)) (fun _ h_ => h_.1))))) k_ hk)); (case aO => exact (Kd.R_ext (Kd.R_mono (Kd.R_far (p := ⟨gb39001, 1, none⟩) (Kd.R_types HO39011.out BK39001.out (by decide)) (fun _ hk => hk.2) (.slice Ao32 t39013.length co32)) (fun _ hk => hk.1)))); (case aS => exact (below_size (below_extB HB.out))); (case aL => have := LMc22.out; omega); intro v39017 w34 ho hb hg hat; rw [← Ny39016.out] at ho; have n0_ := Aside0.mk (blk_grown (g := gb39001) (o := .cells #[.int .i64 t39005, .slice Ao32 t39013.length co32, .slice Ao28 t39009.length co28] 44 (0, 0)) (by (with_reducible repeat (first | refine blk_drewN ?_ _ | refine blk_drew ?_ | refine blk_alloc ?_ _)); refine blk_put (cs := #[.int .i64 t39005, .slice (some ad39012) t39006.length co27, .slice Ao28 t39009.length co28]) ?_ 1 _ rfl; exact blk_ext BK39001.out) hg (Kd.R_ne HO39011.out BK39001.out (by decide))); have n1_ := Aside0.mk (blk_grown (g := gb39002) (o := .cells #[.int .i64 0, .slice none 0 0, .slice none 0 0] 44 (0, 0)) (blk_extC BK39002.out) hg (Kd.R_ne HO39011.out BK39002.out (by decide))); have n2_ := Aside0.mk (Kd.R_after (ok := (fun _ => True)) (Kd.R_ext (Kd.R_mono (Kd.R_far (p := ⟨gb39001, 1, none⟩) (Kd.R_types HO39015.out BK39001.out (by decide)) (fun _ hk => hk.2) (.slice Ao32 t39013.length co32)) (fun _ hk => ⟨trivial, hk.1⟩))) hg hat); have n3_ := Aside0.mk (hb); have n4_ := Aside0.mk (ho); clear BK39001; clear BK39002; clear HO39015; clear HB; clear HO39011; have BK39001 := n0_; have BK39002 := n1_; have HO39015 := n2_; have HB := n3_; have HO39018 := n4_; clear n0_ n1_ n2_ n3_ n4_; clear ho hb hg hat; obtain ⟨Ao35, co35, eo35⟩ := Kd.R_slice HO39018.out; subst eo35; have hcz36_0 : w34.cell? ⟨gb39001, 0, none⟩ = some (.int .i64 t39005) := (blk_cell BK39001.out 0).trans rfl; have hcz36_1 : w34.cell? ⟨gb39001, 1, none⟩ = some (.slice Ao32 t39013.length co32) := (blk_cell BK39001.out 1).trans rfl; have hcz36_2 : w34.cell? ⟨gb39001, 2, none⟩ = some (.slice Ao28 t39009.length co28) := (blk_cell BK39001.out 2).trans rfl; have hfz36_0 := blk_frozen BK39001.out 0; have hfz36_1 := blk_frozen BK39001.out 1; have hfz36_2 := blk_frozen BK39001.out 2; have hcz37_0 : w34.cell? ⟨gb39002, 0, none⟩ = some (.int .i64 0) := (blk_cell BK39002.out 0).trans rfl; have hcz37_1 : w34.cell? ⟨gb39002, 1, none⟩ = some (.slice none 0 0) := (blk_cell BK39002.out 1).trans rfl; have hcz37_2 : w34.cell? ⟨gb39002, 2, none⟩ = some (.slice none 0 0) := (blk_cell BK39002.out 2).trans rfl; have hfz37_0 := blk_frozen BK39002.out 0; have hfz37_1 := blk_frozen BK39002.out 1; have hfz37_2 := blk_frozen BK39002.out 2))
            refine bodyPost_ret (results_ctt rfl _ _ gb39002 44 #[.int .i64 t39005, .slice Ao32 t39013.length co32, .slice Ao35 y39016.length co35] (0, 0) _ rfl (by (with_reducible repeat (first | refine blk_drewN ?_ _ | refine blk_drew ?_ | refine blk_alloc ?_ _)); refine blk_put (cs := #[.int .i64 t39005, .slice Ao32 t39013.length co32, .slice none 0 0]) ?_ 2 _ rfl; (with_reducible repeat (first | refine blk_drewN ?_ _ | refine blk_drew ?_ | refine blk_alloc ?_ _)); refine blk_put (cs := #[.int .i64 t39005, .slice none 0 0, .slice none 0 0]) ?_ 1 _ rfl; (with_reducible repeat (first | refine blk_drewN ?_ _ | refine blk_drew ?_ | refine blk_alloc ?_ _)); refine blk_put (cs := #[.int .i64 0, .slice none 0 0, .slice none 0 0]) ?_ 0 _ rfl; (with_reducible repeat (first | refine blk_drewN ?_ _ | refine blk_drew ?_ | refine blk_alloc ?_ _)); refine blk_far ?_ NB39002_39001.out _; exact blk_ext BK39002.out) Try.underlying44 rfl (by kernel_rfl)) rfl ?_
            exact ⟨_, _, by first | rfl | (simp [errW_none, errW_some] <;> rfl) | (simp [*, errW_none, errW_some] <;> rfl), Kd.R_ext (Kd.R_mono (Kd.R_far (p := ⟨gb39002, 2, none⟩) (Kd.R_far (p := ⟨gb39002, 1, none⟩) (Kd.R_far (p := ⟨gb39002, 0, none⟩) (Kd.R_far (p := ⟨gb39001, 2, none⟩) (Kd.R_types (Kd.R_types HO39015.out BK39001.out (by decide)) BK39002.out (by decide)) (fun _ hk => hk.1.2) (.slice Ao35 y39016.length co35)) (fun _ hk => hk.2) (.int .i64 t39005)) (fun _ hk => hk.2) (.slice Ao32 t39013.length co32)) (fun _ hk => hk.2) (.slice Ao35 y39016.length co35)) (fun _ hk => hk.1.1.2)), Kd.R_ext (Kd.R_mono (Kd.R_far (p := ⟨gb39002, 2, none⟩) (Kd.R_far (p := ⟨gb39002, 1, none⟩) (Kd.R_far (p := ⟨gb39002, 0, none⟩) (Kd.R_far (p := ⟨gb39001, 2, none⟩) (Kd.R_types (Kd.R_types HO39018.out BK39001.out (by decide)) BK39002.out (by decide)) (fun _ hk => hk.1.2) (.slice Ao35 y39016.length co35)) (fun _ hk => hk.2) (.int .i64 t39005)) (fun _ hk => hk.2) (.slice Ao32 t39013.length co32)) (fun _ hk => hk.2) (.slice Ao35 y39016.length co35)) (fun _ hk => hk.1.1)), below_extB HB.out⟩
          · rw [if_neg c21] at H
            have c21b0 : ((rd t39006 a1) == (wrap64 (a2 + 1))) = false := beq_eq_false_iff_ne.mpr c21
            have c21b1 : ((rd t39006 a1) != (wrap64 (a2 + 1))) = true := bne_iff_ne.mpr c21
            replace H := if_some H; obtain ⟨c38, H⟩ := H
            have LMc38 := Aside0.mk c38
            clear c38
            obtain ⟨y39019, hy39019⟩ : ∃ y_ : List Int, y_ = (t39009 ++ [a2]) := ⟨_, rfl⟩
            replace H : (some (t39005, t39013, y39019, rd t39006 a1, 0)) = some (r1, r2, r3, r4, r5) := by first | (rw [hy39019]; with_reducible exact H) | (have H2_ := (Option.bind_some _ _).symm.trans H; rw [hy39019]; with_reducible exact H2_) | (have H2_ := (Option.bind_some _ _).symm.trans H; with_reducible exact H2_) | with_reducible exact H | (rw [hy39019]; exact H) | exact H
            have Ny39019 := Aside0.mk hy39019
            clear hy39019
            simp only [Option.some.injEq, Prod.mk.injEq] at H
            obtain ⟨rfl, rfl, rfl, rfl, rfl⟩ := H
            have hnb39 := NB39001_39002.out
            have hnc39 := NB39002_39001.out
            have hcz40_0 : wc.cell? ⟨gb39001, 0, none⟩ = some (.int .i64 a0_0) := (blk_cell BK39001.out 0).trans rfl
            have hcz40_1 : wc.cell? ⟨gb39001, 1, none⟩ = some (.slice A0_1 l0_1.length c0_1) := (blk_cell BK39001.out 1).trans rfl
            have hcz40_2 : wc.cell? ⟨gb39001, 2, none⟩ = some (.slice A0_2 l0_2.length c0_2) := (blk_cell BK39001.out 2).trans rfl
            have hfz40_0 := blk_frozen BK39001.out 0
            have hfz40_1 := blk_frozen BK39001.out 1
            have hfz40_2 := blk_frozen BK39001.out 2
            go_wp2_with (first | ((with_reducible refine gate_callee (f := 70) rfl ?_); refine goesL_ (some 22) rfl rfl Try.func70 (by kernel_rfl) rfl #[.agg #[.int .i64 a0_0, .slice A0_1 l0_1.length c0_1, .slice A0_2 l0_2.length c0_2]] rfl (by (try simp only [List.map_toArray, List.map_cons, List.map_nil]); first | done | rfl | (simp only [List.length_drop, List.length_take]; rfl)) ?_; (with_reducible refine (channel_copied.calls a0_0 _ _ l0_1 _ _ l0_2 t39005 t39006 t39009 _ ?side1 ?side2 ?side3 ?side4 A17.out).mono ?_); (case side1 => repeat (first | exact (Kd.C_below HR0_1.out HB.out) | (with_reducible refine Kd.C_alloc ?_ _) | (with_reducible refine Kd.C_drewN ?_ _) | (with_reducible refine Kd.C_drew ?_))); (case side2 => exact HC0_1.out); (case side3 => repeat (first | exact (Kd.C_below HR0_2.out HB.out) | (with_reducible refine Kd.C_alloc ?_ _) | (with_reducible refine Kd.C_drewN ?_ _) | (with_reducible refine Kd.C_drew ?_))); (case side4 => exact HC0_2.out); rintro e w41 ⟨v39007, v39010, rfl, ho0, ho1, hb⟩; refine ⟨_, rfl, ?_⟩; have n0_ := Aside0.mk (Kd.R_lower ho0 (below_size (below_extB HB.out))); have n1_ := Aside0.mk (Kd.R_lower ho1 (below_size (below_extB HB.out))); have HO39008 := n0_; have HO39011 := n1_; replace BK39001 := mvB BK39001 hb; replace BK39002 := mvB BK39002 hb; replace HB := mvH HB hb; clear n0_ n1_; (try clear hb); (try clear hb2); (try clear hk); (try clear hi); (try clear ho0); (try clear ho1); have hcz42_0 : w41.cell? ⟨gb39001, 0, none⟩ = some (.int .i64 a0_0) := (blk_cell BK39001.out 0).trans rfl; have hcz42_1 : w41.cell? ⟨gb39001, 1, none⟩ = some (.slice A0_1 l0_1.length c0_1) := (blk_cell BK39001.out 1).trans rfl; have hcz42_2 : w41.cell? ⟨gb39001, 2, none⟩ = some (.slice A0_2 l0_2.length c0_2) := (blk_cell BK39001.out 2).trans rfl; have hfz42_0 := blk_frozen BK39001.out 0; have hfz42_1 := blk_frozen BK39001.out 1; have hfz42_2 := blk_frozen BK39001.out 2; obtain ⟨Ao43, co43, eo43⟩ := Kd.R_slice HO39008.out; subst eo43; obtain ⟨Ao44, co44, eo44⟩ := Kd.R_slice HO39011.out; subst eo44) | ((with_reducible refine gate_store (t := 44) (p := 3) rfl ?_); refine store_event (t := 44) (p := 3) (v := ?vo_w45) (w1 := (((w41.setCell ⟨gb39001, 0, none⟩ (.int .i64 t39005)).setCell ⟨gb39001, 1, none⟩ (.slice Ao43 t39006.length co43)).setCell ⟨gb39001, 2, none⟩ (.slice Ao44 t39009.length co44))) ?hg ?ho ?hn ?hr ?_; (case ho => rfl); (case hg => rfl); (case hn => rfl); (case hr => first | (go_simp; done) | (go_simp; rfl)); intro w45 hw; have n0_ : Aside0 (Kd.R (Kd.int .i64) 3 w45 w.heap.size (fun k_ => some k_ ≠ (.slice Ao44 t39009.length co44 : Value).ownBlock) (.slice Ao43 t39006.length co43) t39006) := ⟨(by rw [hw]; exact (Kd.R_ext (Kd.R_mono (Kd.R_far (p := ⟨gb39001, 2, none⟩) (Kd.R_far (p := ⟨gb39001, 1, none⟩) (Kd.R_far (p := ⟨gb39001, 0, none⟩) (Kd.R_types HO39008.out BK39001.out (by decide)) (fun _ hk => hk.2) (.int .i64 t39005)) (fun _ hk => hk.2) (.slice Ao43 t39006.length co43)) (fun _ hk => hk.2) (.slice Ao44 t39009.length co44)) (fun _ hk => hk.1))))⟩; have n1_ : Aside0 (Kd.R (Kd.int .i64) 3 w45 w.heap.size (fun k_ => some k_ ≠ (.slice Ao43 t39006.length co43 : Value).ownBlock) (.slice Ao44 t39009.length co44) t39009) := ⟨(by rw [hw]; exact (Kd.R_ext (Kd.R_mono (Kd.R_far (p := ⟨gb39001, 2, none⟩) (Kd.R_far (p := ⟨gb39001, 1, none⟩) (Kd.R_far (p := ⟨gb39001, 0, none⟩) (Kd.R_types HO39011.out BK39001.out (by decide)) (fun _ hk => hk.2) (.int .i64 t39005)) (fun _ hk => hk.2) (.slice Ao43 t39006.length co43)) (fun _ hk => hk.2) (.slice Ao44 t39009.length co44)) (fun _ hk => hk.1))))⟩; have n2_ : Aside0 (w45.heap[gb39001]? = some (.cells #[.int .i64 t39005, .slice Ao43 t39006.length co43, .slice Ao44 t39009.length co44] 44 (0, 0))) := ⟨(by rw [hw]; exact (by (with_reducible repeat (first | refine blk_drewN ?_ _ | refine blk_drew ?_ | refine blk_alloc ?_ _)); refine blk_put (cs := #[.int .i64 t39005, .slice Ao43 t39006.length co43, .slice A0_2 l0_2.length c0_2]) ?_ 2 _ rfl; (with_reducible repeat (first | refine blk_drewN ?_ _ | refine blk_drew ?_ | refine blk_alloc ?_ _)); refine blk_put (cs := #[.int .i64 t39005, .slice A0_1 l0_1.length c0_1, .slice A0_2 l0_2.length c0_2]) ?_ 1 _ rfl; (with_reducible repeat (first | refine blk_drewN ?_ _ | refine blk_drew ?_ | refine blk_alloc ?_ _)); refine blk_put (cs := #[.int .i64 a0_0, .slice A0_1 l0_1.length c0_1, .slice A0_2 l0_2.length c0_2]) ?_ 0 _ rfl; exact blk_ext BK39001.out))⟩; have n3_ : Aside0 (w45.heap[gb39002]? = some (.cells #[.int .i64 0, .slice none 0 0, .slice none 0 0] 44 (0, 0))) := ⟨(by rw [hw]; exact (blk_extC BK39002.out))⟩; have n4_ : Aside0 (Below w.heap.size w w45) := ⟨(by rw [hw]; exact (below_extB HB.out))⟩; clear hw; clear HO39008; clear HO39011; clear BK39001; clear BK39002; clear HB; have HO39008 := n0_; have HO39011 := n1_; have BK39001 := n2_; have BK39002 := n3_; have HB := n4_; clear n0_ n1_ n2_ n3_ n4_; have hcz46_0 : w45.cell? ⟨gb39001, 0, none⟩ = some (.int .i64 t39005) := (blk_cell BK39001.out 0).trans rfl; have hcz46_1 : w45.cell? ⟨gb39001, 1, none⟩ = some (.slice Ao43 t39006.length co43) := (blk_cell BK39001.out 1).trans rfl; have hcz46_2 : w45.cell? ⟨gb39001, 2, none⟩ = some (.slice Ao44 t39009.length co44) := (blk_cell BK39001.out 2).trans rfl; have hfz46_0 := blk_frozen BK39001.out 0; have hfz46_1 := blk_frozen BK39001.out 1; have hfz46_2 := blk_frozen BK39001.out 2; have p39012 : 0 ≤ (a1 : Int) := of_decide_eq_true (by first | (with_reducible assumption) | assumption); have q39012 : a1 < (t39006.length : Int) := of_decide_eq_true (by first | (with_reducible assumption) | assumption); obtain ⟨ad39012, e39012, hx39012_0⟩ := Kd.at_int (Kd.R_reads' HO39008.out).2.2 a1 p39012 q39012; cases e39012; replace p39012 := eq_true p39012; replace q39012 := eq_true q39012) | ((with_reducible refine gate_callee (f := 73) rfl ?_); refine goesL_ (some 33) rfl rfl Try.func73 (by kernel_rfl) rfl #[.slice (some ad39012) t39006.length co43, .int .i64 a1, .int .i64 (wrap64 (a1 + 1))] rfl (by (try simp only [List.map_toArray, List.map_cons, List.map_nil]); first | done | rfl | (simp only [List.length_drop, List.length_take]; rfl)) ?_; (with_reducible refine (slices_Delete_int_int.calls (fun k_ => some k_ = (.slice (some ad39012) t39006.length co43 : Value).ownBlock) (.slice (some ad39012) t39006.length co43) t39006 a1 (wrap64 (a1 + 1)) t39013 w _ ?side1 ?side2 A20.out).mono ?_); (case side1 => repeat (first | (with_reducible first | exact HB.out | apply bA | apply bN | apply b1 | refine bS ?_ GE39001.out | refine bS ?_ GE39002.out) | exact HB.out)); (case side2 => exact Kd.R_tight rfl HO39008.out); rintro e w47 ⟨v39014, rfl, ho0, hb, hkp⟩; refine ⟨_, rfl, ?_⟩; have n0_ := Aside0.mk (blk_kept (blk_ext BK39001.out) hkp (fun hs_ => (fun e_ => (Kd.R_ne HO39008.out BK39001.out (by decide)) e_) hs_)); have n1_ := Aside0.mk (blk_kept (blk_ext BK39002.out) hkp (fun hs_ => (fun e_ => (Kd.R_ne HO39008.out BK39002.out (by decide)) e_) hs_)); have n2_ := Aside0.mk (Kd.R_mono (ok' := fun k_ => some k_ ≠ (v39014 : Value).ownBlock) (Kd.R_keptB (HO39011.out) hkp (fun k_ hk_ hs_ => (hk_) hs_)) (fun k_ hk_ => fun e_ => Or.elim (ho0.1 k_ e_.symm) (fun hs_ => hk_.2.1 hs_) (fun hn_ => Nat.not_le.2 hk_.2.2 hn_))); have n3_ := Aside0.mk (Kd.R_mono (ok' := fun k_ => some k_ ≠ (.slice Ao44 t39009.length co44 : Value).ownBlock) ho0 (fun k_ hk_ => Or.elim hk_ (fun hs_ => fun e_ => (((HO39011.out).1 k_ e_.symm)) hs_) (fun hn_ => (Kd.fresh' (Kd.R_lt (Kd.R_ext HO39011.out)) k_ hn_)))); have n4_ := Aside0.mk (hb); clear BK39001; clear BK39002; clear HO39011; clear HB; clear HO39008; have BK39001 := n0_; have BK39002 := n1_; have HO39011 := n2_; have HO39015 := n3_; have HB := n4_; clear n0_ n1_ n2_ n3_ n4_; (try clear hb); (try clear hkp); (try clear ho0); obtain ⟨Ao48, co48, eo48⟩ := Kd.R_slice HO39015.out; subst eo48; have hcz49_0 : w47.cell? ⟨gb39001, 0, none⟩ = some (.int .i64 t39005) := (blk_cell BK39001.out 0).trans rfl; have hcz49_1 : w47.cell? ⟨gb39001, 1, none⟩ = some (.slice (some ad39012) t39006.length co43) := (blk_cell BK39001.out 1).trans rfl; have hcz49_2 : w47.cell? ⟨gb39001, 2, none⟩ = some (.slice Ao44 t39009.length co44) := (blk_cell BK39001.out 2).trans rfl; have hfz49_0 := blk_frozen BK39001.out 0; have hfz49_1 := blk_frozen BK39001.out 1; have hfz49_2 := blk_frozen BK39001.out 2) | ((with_reducible refine gate_builtin (b := .append) (xs := #[.tmp 42, .tmp 44]) rfl ?_); at_builtin; refine Kd.R_append (Kd.int .i64) (w0 := w) w.heap.size rfl (.tmp 42) (.tmp 44) 42 3 (.int .i64 0) 8 rfl Try.underlying42 info3 rfl (by decide) (by omega) (.slice Ao44 t39009.length co44) t39009 a2 [.int .i64 a2] (fun k_ => some k_ ≠ (.slice Ao48 t39013.length co48 : Value).ownBlock) (fun _ => False) rfl (by first | (go_simp; done) | (go_simp; rfl)) ?aP (fun _ hk => hk.elim) ?aF ?aO ?aB ?aS ?aL ?_; (case aP => exact rfl); (case aB => exact (below_extB HB.out)); (case aF => exact (fun k_ hk => Kd.fresh' (Kd.R_lt (Kd.R_ext ((Kd.R_mono (Kd.R_far (p := ⟨gb39001, 1, none⟩) (Kd.R_types HO39015.out BK39001.out (by decide)) (fun _ hk => hk.2) (.slice Ao48 t39013.length co48)) (fun _ h_ => h_.1))))) k_ hk)); (case aO => exact (Kd.R_ext (Kd.R_mono (Kd.R_far (p := ⟨gb39001, 1, none⟩) (Kd.R_types HO39011.out BK39001.out (by decide)) (fun _ hk => hk.2) (.slice Ao48 t39013.length co48)) (fun _ hk => hk.1)))); (case aS => exact (below_size (below_extB HB.out))); (case aL => have := LMc38.out; omega); intro v39020 w50 ho hb hg hat; rw [← Ny39019.out] at ho; have n0_ := Aside0.mk (blk_grown (g := gb39001) (o := .cells #[.int .i64 t39005, .slice Ao48 t39013.length co48, .slice Ao44 t39009.length co44] 44 (0, 0)) (by (with_reducible repeat (first | refine blk_drewN ?_ _ | refine blk_drew ?_ | refine blk_alloc ?_ _)); refine blk_put (cs := #[.int .i64 t39005, .slice (some ad39012) t39006.length co43, .slice Ao44 t39009.length co44]) ?_ 1 _ rfl; exact blk_ext BK39001.out) hg (Kd.R_ne HO39011.out BK39001.out (by decide))); have n1_ := Aside0.mk (blk_grown (g := gb39002) (o := .cells #[.int .i64 0, .slice none 0 0, .slice none 0 0] 44 (0, 0)) (blk_extC BK39002.out) hg (Kd.R_ne HO39011.out BK39002.out (by decide))); have n2_ := Aside0.mk (Kd.R_after (ok := (fun _ => True)) (Kd.R_ext (Kd.R_mono (Kd.R_far (p := ⟨gb39001, 1, none⟩) (Kd.R_types HO39015.out BK39001.out (by decide)) (fun _ hk => hk.2) (.slice Ao48 t39013.length co48)) (fun _ hk => ⟨trivial, hk.1⟩))) hg hat); have n3_ := Aside0.mk (hb); have n4_ := Aside0.mk (ho); clear BK39001; clear BK39002; clear HO39015; clear HB; clear HO39011; have BK39001 := n0_; have BK39002 := n1_; have HO39015 := n2_; have HB := n3_; have HO39021 := n4_; clear n0_ n1_ n2_ n3_ n4_; clear ho hb hg hat; obtain ⟨Ao51, co51, eo51⟩ := Kd.R_slice HO39021.out; subst eo51; have hcz52_0 : w50.cell? ⟨gb39001, 0, none⟩ = some (.int .i64 t39005) := (blk_cell BK39001.out 0).trans rfl; have hcz52_1 : w50.cell? ⟨gb39001, 1, none⟩ = some (.slice Ao48 t39013.length co48) := (blk_cell BK39001.out 1).trans rfl; have hcz52_2 : w50.cell? ⟨gb39001, 2, none⟩ = some (.slice Ao44 t39009.length co44) := (blk_cell BK39001.out 2).trans rfl; have hfz52_0 := blk_frozen BK39001.out 0; have hfz52_1 := blk_frozen BK39001.out 1; have hfz52_2 := blk_frozen BK39001.out 2; have hcz53_0 : w50.cell? ⟨gb39002, 0, none⟩ = some (.int .i64 0) := (blk_cell BK39002.out 0).trans rfl; have hcz53_1 : w50.cell? ⟨gb39002, 1, none⟩ = some (.slice none 0 0) := (blk_cell BK39002.out 1).trans rfl; have hcz53_2 : w50.cell? ⟨gb39002, 2, none⟩ = some (.slice none 0 0) := (blk_cell BK39002.out 2).trans rfl; have hfz53_0 := blk_frozen BK39002.out 0; have hfz53_1 := blk_frozen BK39002.out 1; have hfz53_2 := blk_frozen BK39002.out 2))
            refine bodyPost_ret (results_ctt rfl _ _ gb39002 44 #[.int .i64 t39005, .slice Ao48 t39013.length co48, .slice Ao51 y39019.length co51] (0, 0) _ rfl (by (with_reducible repeat (first | refine blk_drewN ?_ _ | refine blk_drew ?_ | refine blk_alloc ?_ _)); refine blk_put (cs := #[.int .i64 t39005, .slice Ao48 t39013.length co48, .slice none 0 0]) ?_ 2 _ rfl; (with_reducible repeat (first | refine blk_drewN ?_ _ | refine blk_drew ?_ | refine blk_alloc ?_ _)); refine blk_put (cs := #[.int .i64 t39005, .slice none 0 0, .slice none 0 0]) ?_ 1 _ rfl; (with_reducible repeat (first | refine blk_drewN ?_ _ | refine blk_drew ?_ | refine blk_alloc ?_ _)); refine blk_put (cs := #[.int .i64 0, .slice none 0 0, .slice none 0 0]) ?_ 0 _ rfl; (with_reducible repeat (first | refine blk_drewN ?_ _ | refine blk_drew ?_ | refine blk_alloc ?_ _)); refine blk_far ?_ NB39002_39001.out _; exact blk_ext BK39002.out) Try.underlying44 rfl (by kernel_rfl)) rfl ?_
            exact ⟨_, _, by first | rfl | (simp [errW_none, errW_some] <;> rfl) | (simp [*, errW_none, errW_some] <;> rfl), Kd.R_ext (Kd.R_mono (Kd.R_far (p := ⟨gb39002, 2, none⟩) (Kd.R_far (p := ⟨gb39002, 1, none⟩) (Kd.R_far (p := ⟨gb39002, 0, none⟩) (Kd.R_far (p := ⟨gb39001, 2, none⟩) (Kd.R_types (Kd.R_types HO39015.out BK39001.out (by decide)) BK39002.out (by decide)) (fun _ hk => hk.1.2) (.slice Ao51 y39019.length co51)) (fun _ hk => hk.2) (.int .i64 t39005)) (fun _ hk => hk.2) (.slice Ao48 t39013.length co48)) (fun _ hk => hk.2) (.slice Ao51 y39019.length co51)) (fun _ hk => hk.1.1.2)), Kd.R_ext (Kd.R_mono (Kd.R_far (p := ⟨gb39002, 2, none⟩) (Kd.R_far (p := ⟨gb39002, 1, none⟩) (Kd.R_far (p := ⟨gb39002, 0, none⟩) (Kd.R_far (p := ⟨gb39001, 2, none⟩) (Kd.R_types (Kd.R_types HO39021.out BK39001.out (by decide)) BK39002.out (by decide)) (fun _ hk => hk.1.2) (.slice Ao51 y39019.length co51)) (fun _ hk => hk.2) (.int .i64 t39005)) (fun _ hk => hk.2) (.slice Ao48 t39013.length co48)) (fun _ hk => hk.2) (.slice Ao51 y39019.length co51)) (fun _ hk => hk.1.1)), below_extB HB.out⟩
        · rw [if_neg c18] at H
          exact absurd H (by simp)

end Go.Proofs.Ytfljnggpnndmkaa.Z
