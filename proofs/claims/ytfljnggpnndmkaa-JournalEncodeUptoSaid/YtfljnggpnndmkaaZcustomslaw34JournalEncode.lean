/- Written by a program of this session: each Go function as a plain Lean function, and that the machine's call does what it says. Conditions: none but those each theorem states. -/
import Derived.Test.YtfljnggpnndmkaaZ0
import Derived.Test.YtfljnggpnndmkaaZcustomsref33SameBytes
import Derived.Test.YtfljnggpnndmkaaZjournalEncode
import Derived.Test.YtfljnggpnndmkaaZcustomsref33Encode
import Derived.Test.YtfljnggpnndmkaaZjournalScan
import Derived.Test.YtfljnggpnndmkaaZcustomsref33Scan
import Derived.Test.YtfljnggpnndmkaaZcustomslaw34awake
namespace Go.Proofs.Ytfljnggpnndmkaa.Z
open Go.RowKit Go.Proofs.YtfljnggpnndmkaaW.PrintWords Go.Proofs.YtfljnggpnndmkaaW.PrintLast Go.Proofs.YtfljnggpnndmkaaW.PrintMore
attribute [local go_sem] max2_int min2_int max_two min_two max_three min_three max_four min_four   -- for this text's walks alone
set_option linter.unusedVariables false
set_option linter.unusedSimpArgs false

/-! ### customslaw34_JournalEncode: function 11 -/
mutual
def customslaw34_JournalEncode.j0 : Nat → List (S57) → List (S57) → Bool → Option (Bool)
  | 0, _, _, _ => none
  | k + 1, x9, x11, x54 => if x54 = true then (none) else (customslaw34_JournalEncode.l0 k x9 x11 0)
def customslaw34_JournalEncode.l0 : Nat → List (S57) → List (S57) → Int → Option (Bool)
  | 0, _, _, _ => none
  | k + 1, x9, x11, x13 => if x13 < (x9.length : Int) then (if 0 ≤ x13 then (if x13 < (x11.length : Int) then (if ((rd_T57 x9 x13).f0) = ((rd_T57 x11 x13).f0) then ((customsref33_SameBytes.f ((rd_T57 x9 x13).f1) ((rd_T57 x11 x13).f1)).bind fun t920 => (if t920 = true then (customslaw34_JournalEncode.l0 k x9 x11 (wrap64 (x13 + 1))) else (none))) else (none)) else (none)) else (none)) else ((customslaw34_awake.f k).bind fun t921 => (some t921))
end
def customslaw34_JournalEncode.f (k : Nat) (a0_0 : Int) (l0_1 : List Int) (l1 : List Int) : Option (Bool) := (journal_Encode.f k a0_0 l0_1).bind fun bt899 => ((customsref33_Encode.f k a0_0 l0_1).bind fun bt903 => ((journal_Scan.f k l1).bind fun bt907 => ((customsref33_Scan.f k l1).bind fun bt911 => (if bt899.2 = bt903.2 then ((customsref33_SameBytes.f bt899.1 bt903.1).bind fun t915 => (if t915 = true then (if bt907.2 = bt911.2 then (customslaw34_JournalEncode.j0 k bt907.1 bt911.1 ((bt907.1.length : Int) != (bt911.1.length : Int))) else (customslaw34_JournalEncode.j0 k bt907.1 bt911.1 true)) else (customslaw34_JournalEncode.j0 k bt907.1 bt911.1 true))) else (customslaw34_JournalEncode.j0 k bt907.1 bt911.1 true)))))
theorem customslaw34_JournalEncode.mono_l : ∀ k, (∀ y0 y1 y2, LeO (customslaw34_JournalEncode.j0 k y0 y1 y2) (customslaw34_JournalEncode.j0 (k + 1) y0 y1 y2)) ∧ (∀ y0 y1 y2, LeO (customslaw34_JournalEncode.l0 k y0 y1 y2) (customslaw34_JournalEncode.l0 (k + 1) y0 y1 y2))
  | 0 => ⟨fun _ _ _ r h => by simp [customslaw34_JournalEncode.j0] at h, fun _ _ _ r h => by simp [customslaw34_JournalEncode.l0] at h⟩
  | k + 1 => by
    obtain ⟨ih0, ih1⟩ := customslaw34_JournalEncode.mono_l k
    refine ⟨?_, ?_⟩
    · intro y0 y1 y2
      unfold customslaw34_JournalEncode.j0
      repeat' first
      | (with_reducible exact ih0 _ _ _)
      | (with_reducible exact ih1 _ _ _)
      | (with_reducible exact customslaw34_awake.mono _)
      | (with_reducible exact customsref33_Encode.mono _ _ _)
      | (with_reducible exact customsref33_Scan.mono _ _)
      | (with_reducible exact journal_Encode.mono _ _ _)
      | (with_reducible exact journal_Scan.mono _ _)
      | (with_reducible exact LeO.refl _)
      | (with_reducible exact LeO.none _)
      | (with_reducible refine LeO.ite ?_ ?_)
      | (with_reducible refine LeO.bind ?_ (fun _ => ?_))
      | exact ih0 _ _ _
      | exact ih1 _ _ _
      | exact customslaw34_awake.mono _
      | exact customsref33_Encode.mono _ _ _
      | exact customsref33_Scan.mono _ _
      | exact journal_Encode.mono _ _ _
      | exact journal_Scan.mono _ _
      | exact LeO.none _
      | refine LeO.ite ?_ ?_
      | refine LeO.bind ?_ (fun _ => ?_)
    · intro y0 y1 y2
      unfold customslaw34_JournalEncode.l0
      repeat' first
      | (with_reducible exact ih0 _ _ _)
      | (with_reducible exact ih1 _ _ _)
      | (with_reducible exact customslaw34_awake.mono _)
      | (with_reducible exact customsref33_Encode.mono _ _ _)
      | (with_reducible exact customsref33_Scan.mono _ _)
      | (with_reducible exact journal_Encode.mono _ _ _)
      | (with_reducible exact journal_Scan.mono _ _)
      | (with_reducible exact LeO.refl _)
      | (with_reducible exact LeO.none _)
      | (with_reducible refine LeO.ite ?_ ?_)
      | (with_reducible refine LeO.bind ?_ (fun _ => ?_))
      | exact ih0 _ _ _
      | exact ih1 _ _ _
      | exact customslaw34_awake.mono _
      | exact customsref33_Encode.mono _ _ _
      | exact customsref33_Scan.mono _ _
      | exact journal_Encode.mono _ _ _
      | exact journal_Scan.mono _ _
      | exact LeO.none _
      | refine LeO.ite ?_ ?_
      | refine LeO.bind ?_ (fun _ => ?_)
theorem customslaw34_JournalEncode.mono : ∀ a0 a1 a2 k, LeO (customslaw34_JournalEncode.f k a0 a1 a2) (customslaw34_JournalEncode.f (k + 1) a0 a1 a2) := by
  intro a0 a1 a2 k
  obtain ⟨ih0, ih1⟩ := customslaw34_JournalEncode.mono_l k
  unfold customslaw34_JournalEncode.f
  repeat' first
      | (with_reducible exact ih0 _ _ _)
      | (with_reducible exact ih1 _ _ _)
      | (with_reducible exact customslaw34_awake.mono _)
      | (with_reducible exact customsref33_Encode.mono _ _ _)
      | (with_reducible exact customsref33_Scan.mono _ _)
      | (with_reducible exact journal_Encode.mono _ _ _)
      | (with_reducible exact journal_Scan.mono _ _)
      | (with_reducible exact LeO.refl _)
      | (with_reducible exact LeO.none _)
      | (with_reducible refine LeO.ite ?_ ?_)
      | (with_reducible refine LeO.bind ?_ (fun _ => ?_))
      | exact ih0 _ _ _
      | exact ih1 _ _ _
      | exact customslaw34_awake.mono _
      | exact customsref33_Encode.mono _ _ _
      | exact customsref33_Scan.mono _ _
      | exact journal_Encode.mono _ _ _
      | exact journal_Scan.mono _ _
      | exact LeO.none _
      | refine LeO.ite ?_ ?_
      | refine LeO.bind ?_ (fun _ => ?_)
set_option maxHeartbeats 8000000 in
set_option maxRecDepth 100000 in
theorem customslaw34_JournalEncode.calls (k : Nat) (a0_0 : Int) (A0_1 : Option Addr) (c0_1 : Nat) (l0_1 : List Int) (A1 : Option Addr) (c1 : Nat) (l1 : List Int) (r : Bool) (w : World) (hr0_1 : Kd.C (Kd.int .u8) w A0_1 l0_1.length l0_1) (hc0_1 : l0_1.length ≤ c0_1) (hr1 : Kd.C (Kd.int .u8) w A1 l1.length l1) (hc1 : l1.length ≤ c1) (h : customslaw34_JournalEncode.f k a0_0 l0_1 l1 = some r) :
    Calls Try.prog 11 #[.agg #[.int .i64 a0_0, .slice A0_1 l0_1.length c0_1], .slice A1 l1.length c1] w fun e w' => e = .returned (.bool r) ∧ Below w.heap.size w w' := by
  have hu57 := Try.underlying57
  have HR0_1 := Aside0.mk hr0_1
  have HC0_1 := Aside0.mk hc0_1
  clear hr0_1 hc0_1
  have HR1 := Aside0.mk hr1
  have HC1 := Aside0.mk hc1
  clear hr1 hc1
  have HB := Aside0.mk (Below.refl w.heap.size w)
  have H : ((journal_Encode.f k a0_0 l0_1).bind fun bt899 => ((customsref33_Encode.f k a0_0 l0_1).bind fun bt903 => ((journal_Scan.f k l1).bind fun bt907 => ((customsref33_Scan.f k l1).bind fun bt911 => (if bt899.2 = bt903.2 then ((customsref33_SameBytes.f bt899.1 bt903.1).bind fun t915 => (if t915 = true then (if bt907.2 = bt911.2 then (customslaw34_JournalEncode.j0 k bt907.1 bt911.1 ((bt907.1.length : Int) != (bt911.1.length : Int))) else (customslaw34_JournalEncode.j0 k bt907.1 bt911.1 true)) else (customslaw34_JournalEncode.j0 k bt907.1 bt911.1 true))) else (customslaw34_JournalEncode.j0 k bt907.1 bt911.1 true)))))) = some r := h
  clear h
  replace H := Option.bind_eq_some_iff.mp H
  obtain ⟨⟨t899, t902⟩, A30, H⟩ := H
  replace H : ((customsref33_Encode.f k a0_0 l0_1).bind fun bt903 => ((journal_Scan.f k l1).bind fun bt907 => ((customsref33_Scan.f k l1).bind fun bt911 => (if t902 = bt903.2 then ((customsref33_SameBytes.f t899 bt903.1).bind fun t915 => (if t915 = true then (if bt907.2 = bt911.2 then (customslaw34_JournalEncode.j0 k bt907.1 bt911.1 ((bt907.1.length : Int) != (bt911.1.length : Int))) else (customslaw34_JournalEncode.j0 k bt907.1 bt911.1 true)) else (customslaw34_JournalEncode.j0 k bt907.1 bt911.1 true))) else (customslaw34_JournalEncode.j0 k bt907.1 bt911.1 true))))) = some r := H
  have A3 := Aside0.mk A30
  clear A30
  replace H := Option.bind_eq_some_iff.mp H
  obtain ⟨⟨t903, t906⟩, A40, H⟩ := H
  replace H : ((journal_Scan.f k l1).bind fun bt907 => ((customsref33_Scan.f k l1).bind fun bt911 => (if t902 = t906 then ((customsref33_SameBytes.f t899 t903).bind fun t915 => (if t915 = true then (if bt907.2 = bt911.2 then (customslaw34_JournalEncode.j0 k bt907.1 bt911.1 ((bt907.1.length : Int) != (bt911.1.length : Int))) else (customslaw34_JournalEncode.j0 k bt907.1 bt911.1 true)) else (customslaw34_JournalEncode.j0 k bt907.1 bt911.1 true))) else (customslaw34_JournalEncode.j0 k bt907.1 bt911.1 true)))) = some r := H
  have A4 := Aside0.mk A40
  clear A40
  replace H := Option.bind_eq_some_iff.mp H
  obtain ⟨⟨t907, t908⟩, A50, H⟩ := H
  replace H : ((customsref33_Scan.f k l1).bind fun bt911 => (if t902 = t906 then ((customsref33_SameBytes.f t899 t903).bind fun t915 => (if t915 = true then (if t908 = bt911.2 then (customslaw34_JournalEncode.j0 k t907 bt911.1 ((t907.length : Int) != (bt911.1.length : Int))) else (customslaw34_JournalEncode.j0 k t907 bt911.1 true)) else (customslaw34_JournalEncode.j0 k t907 bt911.1 true))) else (customslaw34_JournalEncode.j0 k t907 bt911.1 true))) = some r := H
  have A5 := Aside0.mk A50
  clear A50
  replace H := Option.bind_eq_some_iff.mp H
  obtain ⟨⟨t911, t912⟩, A60, H⟩ := H
  replace H : (if t902 = t906 then ((customsref33_SameBytes.f t899 t903).bind fun t915 => (if t915 = true then (if t908 = t912 then (customslaw34_JournalEncode.j0 k t907 t911 ((t907.length : Int) != (t911.length : Int))) else (customslaw34_JournalEncode.j0 k t907 t911 true)) else (customslaw34_JournalEncode.j0 k t907 t911 true))) else (customslaw34_JournalEncode.j0 k t907 t911 true)) = some r := H
  have A6 := Aside0.mk A60
  clear A60
  have HC7 := Aside0.mk H
  clear H
  go_enter Try.func11, Try.ntmps11
  go_upto_region 5 with (first | ((with_reducible refine gate_dst (N := 2) rfl ?_); (try (refine gate_guard (by rfl) ?_; dsimp only)); refine box_event ?hg (N := 2) ?hd (cs := #[.int .i64 a0_0, .slice A0_1 l0_1.length c0_1]) (t := 57) ?hr ?_; (case hd => rfl); (case hg => rfl); (case hr => first | (go_simp; done) | (go_simp; rfl)); intro gb898 hg w8 hbox hb; have n0_ := Aside0.mk (below_step (by repeat (first | (with_reducible first | exact HB.out | apply below_alloc | apply pw_below_drewN | apply below_drew1) | exact HB.out)) hb); have n1_ := Aside0.mk (hbox); have n2_ := Aside0.mk ((by rw [hg]; exact (below_size (by repeat (first | (with_reducible first | exact HB.out | apply below_alloc | apply pw_below_drewN | apply below_drew1) | exact HB.out))) : w.heap.size ≤ gb898)); have n3_ := Aside0.mk ((by rw [hg]; exact (below_size (by repeat (first | (with_reducible first | exact HB.out | apply below_alloc | apply pw_below_drewN | apply below_drew1) | exact HB.out))) : w.heap.size ≤ gb898)); clear HB; have HB := n0_; have BK898 := n1_; have GW898 := n2_; have GE898 := n3_; clear n0_ n1_ n2_ n3_; clear hb hbox hg; have hcz9_0 : w8.cell? ⟨gb898, 0, none⟩ = some (.int .i64 a0_0) := (blk_cell BK898.out 0).trans rfl; have hcz9_1 : w8.cell? ⟨gb898, 1, none⟩ = some (.slice A0_1 l0_1.length c0_1) := (blk_cell BK898.out 1).trans rfl; have hfz9_0 := blk_frozen BK898.out 0; have hfz9_1 := blk_frozen BK898.out 1) | (go_at_call 51; (with_reducible refine (journal_Encode.calls k a0_0 _ _ l0_1 t899 t902 _ ?side1 ?side2 A3.out).mono ?_); (case side1 => repeat (first | exact (Kd.C_below HR0_1.out HB.out) | (with_reducible refine Kd.C_alloc ?_ _) | (with_reducible refine Kd.C_drewN ?_ _) | (with_reducible refine Kd.C_drew ?_))); (case side2 => exact HC0_1.out); rintro e w10 ⟨v900, rfl, ho0, hb⟩; have n0_ := Aside0.mk (Kd.R_lower ho0 (below_size (by repeat (first | (with_reducible first | exact HB.out | apply below_alloc | apply pw_below_drewN | apply below_drew1 | refine below_set ?_ GE898.out) | exact HB.out)))); have n1_ := Aside0.mk (blk_below (g := gb898) (o := .cells #[.int .i64 a0_0, .slice A0_1 l0_1.length c0_1] 57 (0, 0)) (by (with_reducible repeat (first | refine blk_drewN ?_ _ | refine blk_drew ?_ | refine blk_alloc ?_ _)); exact BK898.out) hb); have n2_ := Aside0.mk (below_step (by repeat (first | (with_reducible first | exact HB.out | apply below_alloc | apply pw_below_drewN | apply below_drew1 | refine below_set ?_ GE898.out) | exact HB.out)) hb); clear BK898; clear HB; have HO901 := n0_; have BK898 := n1_; have HB := n2_; clear n0_ n1_ n2_; (try clear hb); (try clear hb2); (try clear hk); (try clear hi); (try clear ho0); have hcz11_0 : w10.cell? ⟨gb898, 0, none⟩ = some (.int .i64 a0_0) := (blk_cell BK898.out 0).trans rfl; have hcz11_1 : w10.cell? ⟨gb898, 1, none⟩ = some (.slice A0_1 l0_1.length c0_1) := (blk_cell BK898.out 1).trans rfl; have hfz11_0 := blk_frozen BK898.out 0; have hfz11_1 := blk_frozen BK898.out 1) | (go_at_call 52; (with_reducible refine (customsref33_Encode.calls k a0_0 _ _ l0_1 t903 t906 _ ?side1 ?side2 A4.out).mono ?_); (case side1 => repeat (first | exact (Kd.C_below HR0_1.out HB.out) | (with_reducible refine Kd.C_alloc ?_ _) | (with_reducible refine Kd.C_drewN ?_ _) | (with_reducible refine Kd.C_drew ?_))); (case side2 => exact HC0_1.out); rintro e w12 ⟨v904, rfl, ho0, hb⟩; have n0_ := Aside0.mk (Kd.R_elder' (by (with_reducible repeat (first | apply Kd.R_alloc | apply Kd.R_drewN | apply Kd.R_drew)); exact HO901.out) (Kd.R_base ho0) hb); have n1_ := Aside0.mk (Kd.R_lower (Kd.R_new' ho0 (Kd.R_lt (by (with_reducible repeat (first | apply Kd.R_alloc | apply Kd.R_drewN | apply Kd.R_drew)); exact HO901.out))) (below_size (by repeat (first | (with_reducible first | exact HB.out | apply below_alloc | apply pw_below_drewN | apply below_drew1 | refine below_set ?_ GE898.out) | exact HB.out)))); have n2_ := Aside0.mk (blk_below (g := gb898) (o := .cells #[.int .i64 a0_0, .slice A0_1 l0_1.length c0_1] 57 (0, 0)) (by (with_reducible repeat (first | refine blk_drewN ?_ _ | refine blk_drew ?_ | refine blk_alloc ?_ _)); exact BK898.out) hb); have n3_ := Aside0.mk (below_step (by repeat (first | (with_reducible first | exact HB.out | apply below_alloc | apply pw_below_drewN | apply below_drew1 | refine below_set ?_ GE898.out) | exact HB.out)) hb); clear HO901; clear BK898; clear HB; have HO901 := n0_; have HO905 := n1_; have BK898 := n2_; have HB := n3_; clear n0_ n1_ n2_ n3_; (try clear hb); (try clear hb2); (try clear hk); (try clear hi); (try clear ho0)) | (go_at_call 53; (with_reducible refine (journal_Scan.calls k _ _ l1 t907 t908 _ ?side1 ?side2 A5.out).mono ?_); (case side1 => repeat (first | exact (Kd.C_below HR1.out HB.out) | (with_reducible refine Kd.C_alloc ?_ _) | (with_reducible refine Kd.C_drewN ?_ _) | (with_reducible refine Kd.C_drew ?_))); (case side2 => exact HC1.out); rintro e w13 ⟨v909, rfl, ho0, hb⟩; have n0_ := Aside0.mk (Kd.R_below (by (with_reducible repeat (first | apply Kd.R_alloc | apply Kd.R_drewN | apply Kd.R_drew)); exact HO901.out) hb); have n1_ := Aside0.mk (Kd.R_below (by (with_reducible repeat (first | apply Kd.R_alloc | apply Kd.R_drewN | apply Kd.R_drew)); exact HO905.out) hb); have n2_ := Aside0.mk (Kd.S_lower (Kd.S_newB (Kd.S_new' (Kd.S_new' ho0 (Kd.R_lt (by (with_reducible repeat (first | apply Kd.R_alloc | apply Kd.R_drewN | apply Kd.R_drew)); exact HO901.out))) (Kd.R_lt (by (with_reducible repeat (first | apply Kd.R_alloc | apply Kd.R_drewN | apply Kd.R_drew)); exact HO905.out))) (g := gb898) (o := .cells #[.int .i64 a0_0, .slice A0_1 l0_1.length c0_1] 57 (0, 0)) (by (with_reducible repeat (first | refine blk_drewN ?_ _ | refine blk_drew ?_ | refine blk_alloc ?_ _)); exact BK898.out)) (below_size (by repeat (first | (with_reducible first | exact HB.out | apply below_alloc | apply pw_below_drewN | apply below_drew1 | refine below_set ?_ GE898.out) | exact HB.out)))); have n3_ := Aside0.mk (blk_below (g := gb898) (o := .cells #[.int .i64 a0_0, .slice A0_1 l0_1.length c0_1] 57 (0, 0)) (by (with_reducible repeat (first | refine blk_drewN ?_ _ | refine blk_drew ?_ | refine blk_alloc ?_ _)); exact BK898.out) hb); have n4_ := Aside0.mk (below_step (by repeat (first | (with_reducible first | exact HB.out | apply below_alloc | apply pw_below_drewN | apply below_drew1 | refine below_set ?_ GE898.out) | exact HB.out)) hb); clear HO901; clear HO905; clear BK898; clear HB; have HO901 := n0_; have HO905 := n1_; have HO910 := n2_; have BK898 := n3_; have HB := n4_; clear n0_ n1_ n2_ n3_ n4_; (try clear hb); (try clear hb2); (try clear hk); (try clear hi); (try clear ho0)) | (go_at_call 54; (with_reducible refine (customsref33_Scan.calls k _ _ l1 t911 t912 _ ?side1 ?side2 A6.out).mono ?_); (case side1 => repeat (first | exact (Kd.C_below HR1.out HB.out) | (with_reducible refine Kd.C_alloc ?_ _) | (with_reducible refine Kd.C_drewN ?_ _) | (with_reducible refine Kd.C_drew ?_))); (case side2 => exact HC1.out); rintro e w14 ⟨v913, rfl, ho0, hb⟩; have n0_ := Aside0.mk (Kd.R_below (by (with_reducible repeat (first | apply Kd.R_alloc | apply Kd.R_drewN | apply Kd.R_drew)); exact HO901.out) hb); have n1_ := Aside0.mk (Kd.R_below (by (with_reducible repeat (first | apply Kd.R_alloc | apply Kd.R_drewN | apply Kd.R_drew)); exact HO905.out) hb); have n2_ := Aside0.mk (Kd.S_elder' (by (with_reducible repeat (first | apply Kd.S_alloc | apply Kd.S_drewN | apply Kd.S_drew)); exact HO910.out) (Kd.S_base ho0) hb); have n3_ := Aside0.mk (Kd.S_lower (Kd.S_newB (Kd.S_new' (Kd.S_new' (Kd.S_new' ho0 (Kd.R_lt (by (with_reducible repeat (first | apply Kd.R_alloc | apply Kd.R_drewN | apply Kd.R_drew)); exact HO901.out))) (Kd.R_lt (by (with_reducible repeat (first | apply Kd.R_alloc | apply Kd.R_drewN | apply Kd.R_drew)); exact HO905.out))) (Kd.S_lt (by (with_reducible repeat (first | apply Kd.S_alloc | apply Kd.S_drewN | apply Kd.S_drew)); exact HO910.out))) (g := gb898) (o := .cells #[.int .i64 a0_0, .slice A0_1 l0_1.length c0_1] 57 (0, 0)) (by (with_reducible repeat (first | refine blk_drewN ?_ _ | refine blk_drew ?_ | refine blk_alloc ?_ _)); exact BK898.out)) (below_size (by repeat (first | (with_reducible first | exact HB.out | apply below_alloc | apply pw_below_drewN | apply below_drew1 | refine below_set ?_ GE898.out) | exact HB.out)))); have n4_ := Aside0.mk (blk_below (g := gb898) (o := .cells #[.int .i64 a0_0, .slice A0_1 l0_1.length c0_1] 57 (0, 0)) (by (with_reducible repeat (first | refine blk_drewN ?_ _ | refine blk_drew ?_ | refine blk_alloc ?_ _)); exact BK898.out) hb); have n5_ := Aside0.mk (below_step (by repeat (first | (with_reducible first | exact HB.out | apply below_alloc | apply pw_below_drewN | apply below_drew1 | refine below_set ?_ GE898.out) | exact HB.out)) hb); clear HO901; clear HO905; clear HO910; clear BK898; clear HB; have HO901 := n0_; have HO905 := n1_; have HO910 := n2_; have HO914 := n3_; have BK898 := n4_; have HB := n5_; clear n0_ n1_ n2_ n3_ n4_ n5_; (try clear hb); (try clear hb2); (try clear hk); (try clear hi); (try clear ho0)))
  repeat (go_quiet (first | ((with_reducible refine gate_dst (N := 2) rfl ?_); (try (refine gate_guard (by rfl) ?_; dsimp only)); refine box_event ?hg (N := 2) ?hd (cs := #[.int .i64 a0_0, .slice A0_1 l0_1.length c0_1]) (t := 57) ?hr ?_; (case hd => rfl); (case hg => rfl); (case hr => first | (go_simp; done) | (go_simp; rfl)); intro gb898 hg w8 hbox hb; have n0_ := Aside0.mk (below_step (by repeat (first | (with_reducible first | exact HB.out | apply below_alloc | apply pw_below_drewN | apply below_drew1) | exact HB.out)) hb); have n1_ := Aside0.mk (hbox); have n2_ := Aside0.mk ((by rw [hg]; exact (below_size (by repeat (first | (with_reducible first | exact HB.out | apply below_alloc | apply pw_below_drewN | apply below_drew1) | exact HB.out))) : w.heap.size ≤ gb898)); have n3_ := Aside0.mk ((by rw [hg]; exact (below_size (by repeat (first | (with_reducible first | exact HB.out | apply below_alloc | apply pw_below_drewN | apply below_drew1) | exact HB.out))) : w.heap.size ≤ gb898)); clear HB; have HB := n0_; have BK898 := n1_; have GW898 := n2_; have GE898 := n3_; clear n0_ n1_ n2_ n3_; clear hb hbox hg; have hcz9_0 : w8.cell? ⟨gb898, 0, none⟩ = some (.int .i64 a0_0) := (blk_cell BK898.out 0).trans rfl; have hcz9_1 : w8.cell? ⟨gb898, 1, none⟩ = some (.slice A0_1 l0_1.length c0_1) := (blk_cell BK898.out 1).trans rfl; have hfz9_0 := blk_frozen BK898.out 0; have hfz9_1 := blk_frozen BK898.out 1) | (go_at_call 51; (with_reducible refine (journal_Encode.calls k a0_0 _ _ l0_1 t899 t902 _ ?side1 ?side2 A3.out).mono ?_); (case side1 => repeat (first | exact (Kd.C_below HR0_1.out HB.out) | (with_reducible refine Kd.C_alloc ?_ _) | (with_reducible refine Kd.C_drewN ?_ _) | (with_reducible refine Kd.C_drew ?_))); (case side2 => exact HC0_1.out); rintro e w10 ⟨v900, rfl, ho0, hb⟩; have n0_ := Aside0.mk (Kd.R_lower ho0 (below_size (by repeat (first | (with_reducible first | exact HB.out | apply below_alloc | apply pw_below_drewN | apply below_drew1 | refine below_set ?_ GE898.out) | exact HB.out)))); have n1_ := Aside0.mk (blk_below (g := gb898) (o := .cells #[.int .i64 a0_0, .slice A0_1 l0_1.length c0_1] 57 (0, 0)) (by (with_reducible repeat (first | refine blk_drewN ?_ _ | refine blk_drew ?_ | refine blk_alloc ?_ _)); exact BK898.out) hb); have n2_ := Aside0.mk (below_step (by repeat (first | (with_reducible first | exact HB.out | apply below_alloc | apply pw_below_drewN | apply below_drew1 | refine below_set ?_ GE898.out) | exact HB.out)) hb); clear BK898; clear HB; have HO901 := n0_; have BK898 := n1_; have HB := n2_; clear n0_ n1_ n2_; (try clear hb); (try clear hb2); (try clear hk); (try clear hi); (try clear ho0); have hcz11_0 : w10.cell? ⟨gb898, 0, none⟩ = some (.int .i64 a0_0) := (blk_cell BK898.out 0).trans rfl; have hcz11_1 : w10.cell? ⟨gb898, 1, none⟩ = some (.slice A0_1 l0_1.length c0_1) := (blk_cell BK898.out 1).trans rfl; have hfz11_0 := blk_frozen BK898.out 0; have hfz11_1 := blk_frozen BK898.out 1) | (go_at_call 52; (with_reducible refine (customsref33_Encode.calls k a0_0 _ _ l0_1 t903 t906 _ ?side1 ?side2 A4.out).mono ?_); (case side1 => repeat (first | exact (Kd.C_below HR0_1.out HB.out) | (with_reducible refine Kd.C_alloc ?_ _) | (with_reducible refine Kd.C_drewN ?_ _) | (with_reducible refine Kd.C_drew ?_))); (case side2 => exact HC0_1.out); rintro e w12 ⟨v904, rfl, ho0, hb⟩; have n0_ := Aside0.mk (Kd.R_elder' (by (with_reducible repeat (first | apply Kd.R_alloc | apply Kd.R_drewN | apply Kd.R_drew)); exact HO901.out) (Kd.R_base ho0) hb); have n1_ := Aside0.mk (Kd.R_lower (Kd.R_new' ho0 (Kd.R_lt (by (with_reducible repeat (first | apply Kd.R_alloc | apply Kd.R_drewN | apply Kd.R_drew)); exact HO901.out))) (below_size (by repeat (first | (with_reducible first | exact HB.out | apply below_alloc | apply pw_below_drewN | apply below_drew1 | refine below_set ?_ GE898.out) | exact HB.out)))); have n2_ := Aside0.mk (blk_below (g := gb898) (o := .cells #[.int .i64 a0_0, .slice A0_1 l0_1.length c0_1] 57 (0, 0)) (by (with_reducible repeat (first | refine blk_drewN ?_ _ | refine blk_drew ?_ | refine blk_alloc ?_ _)); exact BK898.out) hb); have n3_ := Aside0.mk (below_step (by repeat (first | (with_reducible first | exact HB.out | apply below_alloc | apply pw_below_drewN | apply below_drew1 | refine below_set ?_ GE898.out) | exact HB.out)) hb); clear HO901; clear BK898; clear HB; have HO901 := n0_; have HO905 := n1_; have BK898 := n2_; have HB := n3_; clear n0_ n1_ n2_ n3_; (try clear hb); (try clear hb2); (try clear hk); (try clear hi); (try clear ho0)) | (go_at_call 53; (with_reducible refine (journal_Scan.calls k _ _ l1 t907 t908 _ ?side1 ?side2 A5.out).mono ?_); (case side1 => repeat (first | exact (Kd.C_below HR1.out HB.out) | (with_reducible refine Kd.C_alloc ?_ _) | (with_reducible refine Kd.C_drewN ?_ _) | (with_reducible refine Kd.C_drew ?_))); (case side2 => exact HC1.out); rintro e w13 ⟨v909, rfl, ho0, hb⟩; have n0_ := Aside0.mk (Kd.R_below (by (with_reducible repeat (first | apply Kd.R_alloc | apply Kd.R_drewN | apply Kd.R_drew)); exact HO901.out) hb); have n1_ := Aside0.mk (Kd.R_below (by (with_reducible repeat (first | apply Kd.R_alloc | apply Kd.R_drewN | apply Kd.R_drew)); exact HO905.out) hb); have n2_ := Aside0.mk (Kd.S_lower (Kd.S_newB (Kd.S_new' (Kd.S_new' ho0 (Kd.R_lt (by (with_reducible repeat (first | apply Kd.R_alloc | apply Kd.R_drewN | apply Kd.R_drew)); exact HO901.out))) (Kd.R_lt (by (with_reducible repeat (first | apply Kd.R_alloc | apply Kd.R_drewN | apply Kd.R_drew)); exact HO905.out))) (g := gb898) (o := .cells #[.int .i64 a0_0, .slice A0_1 l0_1.length c0_1] 57 (0, 0)) (by (with_reducible repeat (first | refine blk_drewN ?_ _ | refine blk_drew ?_ | refine blk_alloc ?_ _)); exact BK898.out)) (below_size (by repeat (first | (with_reducible first | exact HB.out | apply below_alloc | apply pw_below_drewN | apply below_drew1 | refine below_set ?_ GE898.out) | exact HB.out)))); have n3_ := Aside0.mk (blk_below (g := gb898) (o := .cells #[.int .i64 a0_0, .slice A0_1 l0_1.length c0_1] 57 (0, 0)) (by (with_reducible repeat (first | refine blk_drewN ?_ _ | refine blk_drew ?_ | refine blk_alloc ?_ _)); exact BK898.out) hb); have n4_ := Aside0.mk (below_step (by repeat (first | (with_reducible first | exact HB.out | apply below_alloc | apply pw_below_drewN | apply below_drew1 | refine below_set ?_ GE898.out) | exact HB.out)) hb); clear HO901; clear HO905; clear BK898; clear HB; have HO901 := n0_; have HO905 := n1_; have HO910 := n2_; have BK898 := n3_; have HB := n4_; clear n0_ n1_ n2_ n3_ n4_; (try clear hb); (try clear hb2); (try clear hk); (try clear hi); (try clear ho0)) | (go_at_call 54; (with_reducible refine (customsref33_Scan.calls k _ _ l1 t911 t912 _ ?side1 ?side2 A6.out).mono ?_); (case side1 => repeat (first | exact (Kd.C_below HR1.out HB.out) | (with_reducible refine Kd.C_alloc ?_ _) | (with_reducible refine Kd.C_drewN ?_ _) | (with_reducible refine Kd.C_drew ?_))); (case side2 => exact HC1.out); rintro e w14 ⟨v913, rfl, ho0, hb⟩; have n0_ := Aside0.mk (Kd.R_below (by (with_reducible repeat (first | apply Kd.R_alloc | apply Kd.R_drewN | apply Kd.R_drew)); exact HO901.out) hb); have n1_ := Aside0.mk (Kd.R_below (by (with_reducible repeat (first | apply Kd.R_alloc | apply Kd.R_drewN | apply Kd.R_drew)); exact HO905.out) hb); have n2_ := Aside0.mk (Kd.S_elder' (by (with_reducible repeat (first | apply Kd.S_alloc | apply Kd.S_drewN | apply Kd.S_drew)); exact HO910.out) (Kd.S_base ho0) hb); have n3_ := Aside0.mk (Kd.S_lower (Kd.S_newB (Kd.S_new' (Kd.S_new' (Kd.S_new' ho0 (Kd.R_lt (by (with_reducible repeat (first | apply Kd.R_alloc | apply Kd.R_drewN | apply Kd.R_drew)); exact HO901.out))) (Kd.R_lt (by (with_reducible repeat (first | apply Kd.R_alloc | apply Kd.R_drewN | apply Kd.R_drew)); exact HO905.out))) (Kd.S_lt (by (with_reducible repeat (first | apply Kd.S_alloc | apply Kd.S_drewN | apply Kd.S_drew)); exact HO910.out))) (g := gb898) (o := .cells #[.int .i64 a0_0, .slice A0_1 l0_1.length c0_1] 57 (0, 0)) (by (with_reducible repeat (first | refine blk_drewN ?_ _ | refine blk_drew ?_ | refine blk_alloc ?_ _)); exact BK898.out)) (below_size (by repeat (first | (with_reducible first | exact HB.out | apply below_alloc | apply pw_below_drewN | apply below_drew1 | refine below_set ?_ GE898.out) | exact HB.out)))); have n4_ := Aside0.mk (blk_below (g := gb898) (o := .cells #[.int .i64 a0_0, .slice A0_1 l0_1.length c0_1] 57 (0, 0)) (by (with_reducible repeat (first | refine blk_drewN ?_ _ | refine blk_drew ?_ | refine blk_alloc ?_ _)); exact BK898.out) hb); have n5_ := Aside0.mk (below_step (by repeat (first | (with_reducible first | exact HB.out | apply below_alloc | apply pw_below_drewN | apply below_drew1 | refine below_set ?_ GE898.out) | exact HB.out)) hb); clear HO901; clear HO905; clear HO910; clear BK898; clear HB; have HO901 := n0_; have HO905 := n1_; have HO910 := n2_; have HO914 := n3_; have BK898 := n4_; have HB := n5_; clear n0_ n1_ n2_ n3_ n4_ n5_; (try clear hb); (try clear hb2); (try clear hk); (try clear hi); (try clear ho0))); go_upto_region 5 with (first | ((with_reducible refine gate_dst (N := 2) rfl ?_); (try (refine gate_guard (by rfl) ?_; dsimp only)); refine box_event ?hg (N := 2) ?hd (cs := #[.int .i64 a0_0, .slice A0_1 l0_1.length c0_1]) (t := 57) ?hr ?_; (case hd => rfl); (case hg => rfl); (case hr => first | (go_simp; done) | (go_simp; rfl)); intro gb898 hg w8 hbox hb; have n0_ := Aside0.mk (below_step (by repeat (first | (with_reducible first | exact HB.out | apply below_alloc | apply pw_below_drewN | apply below_drew1) | exact HB.out)) hb); have n1_ := Aside0.mk (hbox); have n2_ := Aside0.mk ((by rw [hg]; exact (below_size (by repeat (first | (with_reducible first | exact HB.out | apply below_alloc | apply pw_below_drewN | apply below_drew1) | exact HB.out))) : w.heap.size ≤ gb898)); have n3_ := Aside0.mk ((by rw [hg]; exact (below_size (by repeat (first | (with_reducible first | exact HB.out | apply below_alloc | apply pw_below_drewN | apply below_drew1) | exact HB.out))) : w.heap.size ≤ gb898)); clear HB; have HB := n0_; have BK898 := n1_; have GW898 := n2_; have GE898 := n3_; clear n0_ n1_ n2_ n3_; clear hb hbox hg; have hcz9_0 : w8.cell? ⟨gb898, 0, none⟩ = some (.int .i64 a0_0) := (blk_cell BK898.out 0).trans rfl; have hcz9_1 : w8.cell? ⟨gb898, 1, none⟩ = some (.slice A0_1 l0_1.length c0_1) := (blk_cell BK898.out 1).trans rfl; have hfz9_0 := blk_frozen BK898.out 0; have hfz9_1 := blk_frozen BK898.out 1) | (go_at_call 51; (with_reducible refine (journal_Encode.calls k a0_0 _ _ l0_1 t899 t902 _ ?side1 ?side2 A3.out).mono ?_); (case side1 => repeat (first | exact (Kd.C_below HR0_1.out HB.out) | (with_reducible refine Kd.C_alloc ?_ _) | (with_reducible refine Kd.C_drewN ?_ _) | (with_reducible refine Kd.C_drew ?_))); (case side2 => exact HC0_1.out); rintro e w10 ⟨v900, rfl, ho0, hb⟩; have n0_ := Aside0.mk (Kd.R_lower ho0 (below_size (by repeat (first | (with_reducible first | exact HB.out | apply below_alloc | apply pw_below_drewN | apply below_drew1 | refine below_set ?_ GE898.out) | exact HB.out)))); have n1_ := Aside0.mk (blk_below (g := gb898) (o := .cells #[.int .i64 a0_0, .slice A0_1 l0_1.length c0_1] 57 (0, 0)) (by (with_reducible repeat (first | refine blk_drewN ?_ _ | refine blk_drew ?_ | refine blk_alloc ?_ _)); exact BK898.out) hb); have n2_ := Aside0.mk (below_step (by repeat (first | (with_reducible first | exact HB.out | apply below_alloc | apply pw_below_drewN | apply below_drew1 | refine below_set ?_ GE898.out) | exact HB.out)) hb); clear BK898; clear HB; have HO901 := n0_; have BK898 := n1_; have HB := n2_; clear n0_ n1_ n2_; (try clear hb); (try clear hb2); (try clear hk); (try clear hi); (try clear ho0); have hcz11_0 : w10.cell? ⟨gb898, 0, none⟩ = some (.int .i64 a0_0) := (blk_cell BK898.out 0).trans rfl; have hcz11_1 : w10.cell? ⟨gb898, 1, none⟩ = some (.slice A0_1 l0_1.length c0_1) := (blk_cell BK898.out 1).trans rfl; have hfz11_0 := blk_frozen BK898.out 0; have hfz11_1 := blk_frozen BK898.out 1) | (go_at_call 52; (with_reducible refine (customsref33_Encode.calls k a0_0 _ _ l0_1 t903 t906 _ ?side1 ?side2 A4.out).mono ?_); (case side1 => repeat (first | exact (Kd.C_below HR0_1.out HB.out) | (with_reducible refine Kd.C_alloc ?_ _) | (with_reducible refine Kd.C_drewN ?_ _) | (with_reducible refine Kd.C_drew ?_))); (case side2 => exact HC0_1.out); rintro e w12 ⟨v904, rfl, ho0, hb⟩; have n0_ := Aside0.mk (Kd.R_elder' (by (with_reducible repeat (first | apply Kd.R_alloc | apply Kd.R_drewN | apply Kd.R_drew)); exact HO901.out) (Kd.R_base ho0) hb); have n1_ := Aside0.mk (Kd.R_lower (Kd.R_new' ho0 (Kd.R_lt (by (with_reducible repeat (first | apply Kd.R_alloc | apply Kd.R_drewN | apply Kd.R_drew)); exact HO901.out))) (below_size (by repeat (first | (with_reducible first | exact HB.out | apply below_alloc | apply pw_below_drewN | apply below_drew1 | refine below_set ?_ GE898.out) | exact HB.out)))); have n2_ := Aside0.mk (blk_below (g := gb898) (o := .cells #[.int .i64 a0_0, .slice A0_1 l0_1.length c0_1] 57 (0, 0)) (by (with_reducible repeat (first | refine blk_drewN ?_ _ | refine blk_drew ?_ | refine blk_alloc ?_ _)); exact BK898.out) hb); have n3_ := Aside0.mk (below_step (by repeat (first | (with_reducible first | exact HB.out | apply below_alloc | apply pw_below_drewN | apply below_drew1 | refine below_set ?_ GE898.out) | exact HB.out)) hb); clear HO901; clear BK898; clear HB; have HO901 := n0_; have HO905 := n1_; have BK898 := n2_; have HB := n3_; clear n0_ n1_ n2_ n3_; (try clear hb); (try clear hb2); (try clear hk); (try clear hi); (try clear ho0)) | (go_at_call 53; (with_reducible refine (journal_Scan.calls k _ _ l1 t907 t908 _ ?side1 ?side2 A5.out).mono ?_); (case side1 => repeat (first | exact (Kd.C_below HR1.out HB.out) | (with_reducible refine Kd.C_alloc ?_ _) | (with_reducible refine Kd.C_drewN ?_ _) | (with_reducible refine Kd.C_drew ?_))); (case side2 => exact HC1.out); rintro e w13 ⟨v909, rfl, ho0, hb⟩; have n0_ := Aside0.mk (Kd.R_below (by (with_reducible repeat (first | apply Kd.R_alloc | apply Kd.R_drewN | apply Kd.R_drew)); exact HO901.out) hb); have n1_ := Aside0.mk (Kd.R_below (by (with_reducible repeat (first | apply Kd.R_alloc | apply Kd.R_drewN | apply Kd.R_drew)); exact HO905.out) hb); have n2_ := Aside0.mk (Kd.S_lower (Kd.S_newB (Kd.S_new' (Kd.S_new' ho0 (Kd.R_lt (by (with_reducible repeat (first | apply Kd.R_alloc | apply Kd.R_drewN | apply Kd.R_drew)); exact HO901.out))) (Kd.R_lt (by (with_reducible repeat (first | apply Kd.R_alloc | apply Kd.R_drewN | apply Kd.R_drew)); exact HO905.out))) (g := gb898) (o := .cells #[.int .i64 a0_0, .slice A0_1 l0_1.length c0_1] 57 (0, 0)) (by (with_reducible repeat (first | refine blk_drewN ?_ _ | refine blk_drew ?_ | refine blk_alloc ?_ _)); exact BK898.out)) (below_size (by repeat (first | (with_reducible first | exact HB.out | apply below_alloc | apply pw_below_drewN | apply below_drew1 | refine below_set ?_ GE898.out) | exact HB.out)))); have n3_ := Aside0.mk (blk_below (g := gb898) (o := .cells #[.int .i64 a0_0, .slice A0_1 l0_1.length c0_1] 57 (0, 0)) (by (with_reducible repeat (first | refine blk_drewN ?_ _ | refine blk_drew ?_ | refine blk_alloc ?_ _)); exact BK898.out) hb); have n4_ := Aside0.mk (below_step (by repeat (first | (with_reducible first | exact HB.out | apply below_alloc | apply pw_below_drewN | apply below_drew1 | refine below_set ?_ GE898.out) | exact HB.out)) hb); clear HO901; clear HO905; clear BK898; clear HB; have HO901 := n0_; have HO905 := n1_; have HO910 := n2_; have BK898 := n3_; have HB := n4_; clear n0_ n1_ n2_ n3_ n4_; (try clear hb); (try clear hb2); (try clear hk); (try clear hi); (try clear ho0)) | (go_at_call 54; (with_reducible refine (customsref33_Scan.calls k _ _ l1 t911 t912 _ ?side1 ?side2 A6.out).mono ?_); (case side1 => repeat (first | exact (Kd.C_below HR1.out HB.out) | (with_reducible refine Kd.C_alloc ?_ _) | (with_reducible refine Kd.C_drewN ?_ _) | (with_reducible refine Kd.C_drew ?_))); (case side2 => exact HC1.out); rintro e w14 ⟨v913, rfl, ho0, hb⟩; have n0_ := Aside0.mk (Kd.R_below (by (with_reducible repeat (first | apply Kd.R_alloc | apply Kd.R_drewN | apply Kd.R_drew)); exact HO901.out) hb); have n1_ := Aside0.mk (Kd.R_below (by (with_reducible repeat (first | apply Kd.R_alloc | apply Kd.R_drewN | apply Kd.R_drew)); exact HO905.out) hb); have n2_ := Aside0.mk (Kd.S_elder' (by (with_reducible repeat (first | apply Kd.S_alloc | apply Kd.S_drewN | apply Kd.S_drew)); exact HO910.out) (Kd.S_base ho0) hb); have n3_ := Aside0.mk (Kd.S_lower (Kd.S_newB (Kd.S_new' (Kd.S_new' (Kd.S_new' ho0 (Kd.R_lt (by (with_reducible repeat (first | apply Kd.R_alloc | apply Kd.R_drewN | apply Kd.R_drew)); exact HO901.out))) (Kd.R_lt (by (with_reducible repeat (first | apply Kd.R_alloc | apply Kd.R_drewN | apply Kd.R_drew)); exact HO905.out))) (Kd.S_lt (by (with_reducible repeat (first | apply Kd.S_alloc | apply Kd.S_drewN | apply Kd.S_drew)); exact HO910.out))) (g := gb898) (o := .cells #[.int .i64 a0_0, .slice A0_1 l0_1.length c0_1] 57 (0, 0)) (by (with_reducible repeat (first | refine blk_drewN ?_ _ | refine blk_drew ?_ | refine blk_alloc ?_ _)); exact BK898.out)) (below_size (by repeat (first | (with_reducible first | exact HB.out | apply below_alloc | apply pw_below_drewN | apply below_drew1 | refine below_set ?_ GE898.out) | exact HB.out)))); have n4_ := Aside0.mk (blk_below (g := gb898) (o := .cells #[.int .i64 a0_0, .slice A0_1 l0_1.length c0_1] 57 (0, 0)) (by (with_reducible repeat (first | refine blk_drewN ?_ _ | refine blk_drew ?_ | refine blk_alloc ?_ _)); exact BK898.out) hb); have n5_ := Aside0.mk (below_step (by repeat (first | (with_reducible first | exact HB.out | apply below_alloc | apply pw_below_drewN | apply below_drew1 | refine below_set ?_ GE898.out) | exact HB.out)) hb); clear HO901; clear HO905; clear HO910; clear BK898; clear HB; have HO901 := n0_; have HO905 := n1_; have HO910 := n2_; have HO914 := n3_; have BK898 := n4_; have HB := n5_; clear n0_ n1_ n2_ n3_ n4_ n5_; (try clear hb); (try clear hb2); (try clear hk); (try clear hi); (try clear ho0))))
  (try simp only [Act.put, List.setIfInBounds_toArray, List.set_cons_zero, List.set_cons_succ])
  go_cut [54] (fun v54 wc => ∃ (kq : Nat) (x54_6 : Bool), v54 = .bool x54_6 ∧ Aside0 (customslaw34_JournalEncode.j0 kq t907 t911 x54_6 = some r) ∧ Aside0 (kq ≤ k) ∧ Aside0 (Kd.S k57 57 wc w.heap.size (fun k_ => some k_ ≠ (v913 : Value).ownBlock ∧ k_ ≠ gb898) v909 t907) ∧ Aside0 (Kd.S k57 57 wc w.heap.size (fun k_ => some k_ ≠ (v909 : Value).ownBlock ∧ k_ ≠ gb898) v913 t911) ∧ Aside0 (wc.heap[gb898]? = some (.cells #[.int .i64 a0_0, (.slice A0_1 l0_1.length c0_1)] 57 (0, 0))) ∧ Aside0 (Below w.heap.size w wc))
  case first =>
    have H := HC7.out
    clear HC7
    by_cases c15 : t902 = t906
    · rw [if_pos c15] at H
      have c15b0 : (t902 == t906) = true := beq_iff_eq.mpr c15
      have c15b1 : (t902 != t906) = false := bne_eq_false_iff_eq.mpr c15
      clear c15
      (first | rw [c15b0] | (simp only [i64_w, i32_w]; rw [c15b0]) | skip)
      replace H := Option.bind_eq_some_iff.mp H
      obtain ⟨t915, A160, H⟩ := H
      replace H : (if t915 = true then (if t908 = t912 then (customslaw34_JournalEncode.j0 k t907 t911 ((t907.length : Int) != (t911.length : Int))) else (customslaw34_JournalEncode.j0 k t907 t911 true)) else (customslaw34_JournalEncode.j0 k t907 t911 true)) = some r := H
      have A16 := Aside0.mk A160
      clear A160
      by_cases c17 : t915 = true
      · subst c17
        have H1 : (if t908 = t912 then (customslaw34_JournalEncode.j0 k t907 t911 ((t907.length : Int) != (t911.length : Int))) else (customslaw34_JournalEncode.j0 k t907 t911 true)) = some r := by rw [if_pos rfl] at H; exact H
        clear H
        have H := H1
        clear H1
        by_cases c18 : t908 = t912
        · rw [if_pos c18] at H
          have c18b0 : (t908 == t912) = true := beq_iff_eq.mpr c18
          have c18b1 : (t908 != t912) = false := bne_eq_false_iff_eq.mpr c18
          clear c18
          have H' := Aside0.mk H
          clear H
          obtain ⟨Ao19, co19, eo19⟩ := Kd.R_slice HO901.out
          subst eo19
          obtain ⟨Ao20, co20, eo20⟩ := Kd.R_slice HO905.out
          subst eo20
          go_wp2_with (first | (go_at_call 21; (with_reducible refine (customsref33_SameBytes.calls _ _ t899 _ _ t903 true _ ?side1 ?side2 ?side3 ?side4 A16.out).mono ?_); (case side1 => repeat (first | exact (Kd.R_reads' HO901.out).2.2 | (with_reducible refine Kd.C_alloc ?_ _) | (with_reducible refine Kd.C_drewN ?_ _) | (with_reducible refine Kd.C_drew ?_))); (case side2 => exact (Kd.R_reads' HO901.out).2.1); (case side3 => repeat (first | exact (Kd.R_reads' HO905.out).2.2 | (with_reducible refine Kd.C_alloc ?_ _) | (with_reducible refine Kd.C_drewN ?_ _) | (with_reducible refine Kd.C_drew ?_))); (case side4 => exact (Kd.R_reads' HO905.out).2.1); rintro e w' ⟨rfl, ⟨nd, rfl⟩⟩; (try first | exact ⟨rfl, _, World.drewN_drewN _ _ _⟩ | exact ⟨rfl, _, Eq.trans (World.drewN_drewN _ _ _) (congrArg (World.drewN _) (Nat.add_assoc _ _ _))⟩); obtain ⟨Ao21, co21, eo21⟩ := Kd.S_slice HO910.out; subst eo21; obtain ⟨Ao22, co22, eo22⟩ := Kd.S_slice HO914.out; subst eo22))
          repeat (go_quiet (first | (go_at_call 21; (with_reducible refine (customsref33_SameBytes.calls _ _ t899 _ _ t903 true _ ?side1 ?side2 ?side3 ?side4 A16.out).mono ?_); (case side1 => repeat (first | exact (Kd.R_reads' HO901.out).2.2 | (with_reducible refine Kd.C_alloc ?_ _) | (with_reducible refine Kd.C_drewN ?_ _) | (with_reducible refine Kd.C_drew ?_))); (case side2 => exact (Kd.R_reads' HO901.out).2.1); (case side3 => repeat (first | exact (Kd.R_reads' HO905.out).2.2 | (with_reducible refine Kd.C_alloc ?_ _) | (with_reducible refine Kd.C_drewN ?_ _) | (with_reducible refine Kd.C_drew ?_))); (case side4 => exact (Kd.R_reads' HO905.out).2.1); rintro e w' ⟨rfl, ⟨nd, rfl⟩⟩; (try first | exact ⟨rfl, _, World.drewN_drewN _ _ _⟩ | exact ⟨rfl, _, Eq.trans (World.drewN_drewN _ _ _) (congrArg (World.drewN _) (Nat.add_assoc _ _ _))⟩); obtain ⟨Ao21, co21, eo21⟩ := Kd.S_slice HO910.out; subst eo21; obtain ⟨Ao22, co22, eo22⟩ := Kd.S_slice HO914.out; subst eo22)); try go_wp2_with (first | (go_at_call 21; (with_reducible refine (customsref33_SameBytes.calls _ _ t899 _ _ t903 true _ ?side1 ?side2 ?side3 ?side4 A16.out).mono ?_); (case side1 => repeat (first | exact (Kd.R_reads' HO901.out).2.2 | (with_reducible refine Kd.C_alloc ?_ _) | (with_reducible refine Kd.C_drewN ?_ _) | (with_reducible refine Kd.C_drew ?_))); (case side2 => exact (Kd.R_reads' HO901.out).2.1); (case side3 => repeat (first | exact (Kd.R_reads' HO905.out).2.2 | (with_reducible refine Kd.C_alloc ?_ _) | (with_reducible refine Kd.C_drewN ?_ _) | (with_reducible refine Kd.C_drew ?_))); (case side4 => exact (Kd.R_reads' HO905.out).2.1); rintro e w' ⟨rfl, ⟨nd, rfl⟩⟩; (try first | exact ⟨rfl, _, World.drewN_drewN _ _ _⟩ | exact ⟨rfl, _, Eq.trans (World.drewN_drewN _ _ _) (congrArg (World.drewN _) (Nat.add_assoc _ _ _))⟩); obtain ⟨Ao21, co21, eo21⟩ := Kd.S_slice HO910.out; subst eo21; obtain ⟨Ao22, co22, eo22⟩ := Kd.S_slice HO914.out; subst eo22)))
          go_meet
          case rel => exact ⟨_, (((t907.length : Int) != (t911.length : Int))), (by first | rfl | (simp; done) | (simp [*]; done)), H', ⟨by first | omega | exact Nat.le_refl _⟩, ⟨by (with_reducible repeat (first | apply Kd.S_alloc | apply Kd.S_drewN | apply Kd.S_drew)); exact Kd.S_mono HO910.out (fun _ hk => ⟨hk.2, hk.1.2⟩)⟩, ⟨by (with_reducible repeat (first | apply Kd.S_alloc | apply Kd.S_drewN | apply Kd.S_drew)); exact Kd.S_mono HO914.out (fun _ hk => ⟨hk.1.2, hk.2⟩)⟩, ⟨by (with_reducible repeat (first | refine blk_drewN ?_ _ | refine blk_drew ?_ | refine blk_alloc ?_ _)); exact BK898.out⟩, ⟨by repeat (first | (with_reducible first | exact HB.out | apply below_alloc | apply pw_below_drewN | apply below_drew1 | refine below_set ?_ GE898.out) | exact HB.out)⟩⟩
        · rw [if_neg c18] at H
          have c18b0 : (t908 == t912) = false := beq_eq_false_iff_ne.mpr c18
          have c18b1 : (t908 != t912) = true := bne_iff_ne.mpr c18
          have H' := Aside0.mk H
          clear H
          obtain ⟨Ao23, co23, eo23⟩ := Kd.R_slice HO901.out
          subst eo23
          obtain ⟨Ao24, co24, eo24⟩ := Kd.R_slice HO905.out
          subst eo24
          go_wp2_with (first | (go_at_call 21; (with_reducible refine (customsref33_SameBytes.calls _ _ t899 _ _ t903 true _ ?side1 ?side2 ?side3 ?side4 A16.out).mono ?_); (case side1 => repeat (first | exact (Kd.R_reads' HO901.out).2.2 | (with_reducible refine Kd.C_alloc ?_ _) | (with_reducible refine Kd.C_drewN ?_ _) | (with_reducible refine Kd.C_drew ?_))); (case side2 => exact (Kd.R_reads' HO901.out).2.1); (case side3 => repeat (first | exact (Kd.R_reads' HO905.out).2.2 | (with_reducible refine Kd.C_alloc ?_ _) | (with_reducible refine Kd.C_drewN ?_ _) | (with_reducible refine Kd.C_drew ?_))); (case side4 => exact (Kd.R_reads' HO905.out).2.1); rintro e w' ⟨rfl, ⟨nd, rfl⟩⟩; (try first | exact ⟨rfl, _, World.drewN_drewN _ _ _⟩ | exact ⟨rfl, _, Eq.trans (World.drewN_drewN _ _ _) (congrArg (World.drewN _) (Nat.add_assoc _ _ _))⟩)))
          repeat (go_quiet (first | (go_at_call 21; (with_reducible refine (customsref33_SameBytes.calls _ _ t899 _ _ t903 true _ ?side1 ?side2 ?side3 ?side4 A16.out).mono ?_); (case side1 => repeat (first | exact (Kd.R_reads' HO901.out).2.2 | (with_reducible refine Kd.C_alloc ?_ _) | (with_reducible refine Kd.C_drewN ?_ _) | (with_reducible refine Kd.C_drew ?_))); (case side2 => exact (Kd.R_reads' HO901.out).2.1); (case side3 => repeat (first | exact (Kd.R_reads' HO905.out).2.2 | (with_reducible refine Kd.C_alloc ?_ _) | (with_reducible refine Kd.C_drewN ?_ _) | (with_reducible refine Kd.C_drew ?_))); (case side4 => exact (Kd.R_reads' HO905.out).2.1); rintro e w' ⟨rfl, ⟨nd, rfl⟩⟩; (try first | exact ⟨rfl, _, World.drewN_drewN _ _ _⟩ | exact ⟨rfl, _, Eq.trans (World.drewN_drewN _ _ _) (congrArg (World.drewN _) (Nat.add_assoc _ _ _))⟩))); try go_wp2_with (first | (go_at_call 21; (with_reducible refine (customsref33_SameBytes.calls _ _ t899 _ _ t903 true _ ?side1 ?side2 ?side3 ?side4 A16.out).mono ?_); (case side1 => repeat (first | exact (Kd.R_reads' HO901.out).2.2 | (with_reducible refine Kd.C_alloc ?_ _) | (with_reducible refine Kd.C_drewN ?_ _) | (with_reducible refine Kd.C_drew ?_))); (case side2 => exact (Kd.R_reads' HO901.out).2.1); (case side3 => repeat (first | exact (Kd.R_reads' HO905.out).2.2 | (with_reducible refine Kd.C_alloc ?_ _) | (with_reducible refine Kd.C_drewN ?_ _) | (with_reducible refine Kd.C_drew ?_))); (case side4 => exact (Kd.R_reads' HO905.out).2.1); rintro e w' ⟨rfl, ⟨nd, rfl⟩⟩; (try first | exact ⟨rfl, _, World.drewN_drewN _ _ _⟩ | exact ⟨rfl, _, Eq.trans (World.drewN_drewN _ _ _) (congrArg (World.drewN _) (Nat.add_assoc _ _ _))⟩))))
          go_meet
          case rel => exact ⟨_, (true), (by first | rfl | (simp; done) | (simp [*]; done)), H', ⟨by first | omega | exact Nat.le_refl _⟩, ⟨by (with_reducible repeat (first | apply Kd.S_alloc | apply Kd.S_drewN | apply Kd.S_drew)); exact Kd.S_mono HO910.out (fun _ hk => ⟨hk.2, hk.1.2⟩)⟩, ⟨by (with_reducible repeat (first | apply Kd.S_alloc | apply Kd.S_drewN | apply Kd.S_drew)); exact Kd.S_mono HO914.out (fun _ hk => ⟨hk.1.2, hk.2⟩)⟩, ⟨by (with_reducible repeat (first | refine blk_drewN ?_ _ | refine blk_drew ?_ | refine blk_alloc ?_ _)); exact BK898.out⟩, ⟨by repeat (first | (with_reducible first | exact HB.out | apply below_alloc | apply pw_below_drewN | apply below_drew1 | refine below_set ?_ GE898.out) | exact HB.out)⟩⟩
      · replace c17 := Bool.eq_false_iff.mpr c17
        subst c17
        have H1 : (customslaw34_JournalEncode.j0 k t907 t911 true) = some r := by rw [if_neg (show ¬ (false = true) by decide)] at H; exact H
        clear H
        have H := H1
        clear H1
        have H' := Aside0.mk H
        clear H
        obtain ⟨Ao25, co25, eo25⟩ := Kd.R_slice HO901.out
        subst eo25
        obtain ⟨Ao26, co26, eo26⟩ := Kd.R_slice HO905.out
        subst eo26
        go_wp2_with (first | (go_at_call 21; (with_reducible refine (customsref33_SameBytes.calls _ _ t899 _ _ t903 false _ ?side1 ?side2 ?side3 ?side4 A16.out).mono ?_); (case side1 => repeat (first | exact (Kd.R_reads' HO901.out).2.2 | (with_reducible refine Kd.C_alloc ?_ _) | (with_reducible refine Kd.C_drewN ?_ _) | (with_reducible refine Kd.C_drew ?_))); (case side2 => exact (Kd.R_reads' HO901.out).2.1); (case side3 => repeat (first | exact (Kd.R_reads' HO905.out).2.2 | (with_reducible refine Kd.C_alloc ?_ _) | (with_reducible refine Kd.C_drewN ?_ _) | (with_reducible refine Kd.C_drew ?_))); (case side4 => exact (Kd.R_reads' HO905.out).2.1); rintro e w' ⟨rfl, ⟨nd, rfl⟩⟩; (try first | exact ⟨rfl, _, World.drewN_drewN _ _ _⟩ | exact ⟨rfl, _, Eq.trans (World.drewN_drewN _ _ _) (congrArg (World.drewN _) (Nat.add_assoc _ _ _))⟩)))
        repeat (go_quiet (first | (go_at_call 21; (with_reducible refine (customsref33_SameBytes.calls _ _ t899 _ _ t903 false _ ?side1 ?side2 ?side3 ?side4 A16.out).mono ?_); (case side1 => repeat (first | exact (Kd.R_reads' HO901.out).2.2 | (with_reducible refine Kd.C_alloc ?_ _) | (with_reducible refine Kd.C_drewN ?_ _) | (with_reducible refine Kd.C_drew ?_))); (case side2 => exact (Kd.R_reads' HO901.out).2.1); (case side3 => repeat (first | exact (Kd.R_reads' HO905.out).2.2 | (with_reducible refine Kd.C_alloc ?_ _) | (with_reducible refine Kd.C_drewN ?_ _) | (with_reducible refine Kd.C_drew ?_))); (case side4 => exact (Kd.R_reads' HO905.out).2.1); rintro e w' ⟨rfl, ⟨nd, rfl⟩⟩; (try first | exact ⟨rfl, _, World.drewN_drewN _ _ _⟩ | exact ⟨rfl, _, Eq.trans (World.drewN_drewN _ _ _) (congrArg (World.drewN _) (Nat.add_assoc _ _ _))⟩))); try go_wp2_with (first | (go_at_call 21; (with_reducible refine (customsref33_SameBytes.calls _ _ t899 _ _ t903 false _ ?side1 ?side2 ?side3 ?side4 A16.out).mono ?_); (case side1 => repeat (first | exact (Kd.R_reads' HO901.out).2.2 | (with_reducible refine Kd.C_alloc ?_ _) | (with_reducible refine Kd.C_drewN ?_ _) | (with_reducible refine Kd.C_drew ?_))); (case side2 => exact (Kd.R_reads' HO901.out).2.1); (case side3 => repeat (first | exact (Kd.R_reads' HO905.out).2.2 | (with_reducible refine Kd.C_alloc ?_ _) | (with_reducible refine Kd.C_drewN ?_ _) | (with_reducible refine Kd.C_drew ?_))); (case side4 => exact (Kd.R_reads' HO905.out).2.1); rintro e w' ⟨rfl, ⟨nd, rfl⟩⟩; (try first | exact ⟨rfl, _, World.drewN_drewN _ _ _⟩ | exact ⟨rfl, _, Eq.trans (World.drewN_drewN _ _ _) (congrArg (World.drewN _) (Nat.add_assoc _ _ _))⟩))))
        go_meet
        case rel => exact ⟨_, (true), (by first | rfl | (simp; done) | (simp [*]; done)), H', ⟨by first | omega | exact Nat.le_refl _⟩, ⟨by (with_reducible repeat (first | apply Kd.S_alloc | apply Kd.S_drewN | apply Kd.S_drew)); exact Kd.S_mono HO910.out (fun _ hk => ⟨hk.2, hk.1.2⟩)⟩, ⟨by (with_reducible repeat (first | apply Kd.S_alloc | apply Kd.S_drewN | apply Kd.S_drew)); exact Kd.S_mono HO914.out (fun _ hk => ⟨hk.1.2, hk.2⟩)⟩, ⟨by (with_reducible repeat (first | refine blk_drewN ?_ _ | refine blk_drew ?_ | refine blk_alloc ?_ _)); exact BK898.out⟩, ⟨by repeat (first | (with_reducible first | exact HB.out | apply below_alloc | apply pw_below_drewN | apply below_drew1 | refine below_set ?_ GE898.out) | exact HB.out)⟩⟩
    · rw [if_neg c15] at H
      have c15b0 : (t902 == t906) = false := beq_eq_false_iff_ne.mpr c15
      have c15b1 : (t902 != t906) = true := bne_iff_ne.mpr c15
      (first | rw [c15b0] | (simp only [i64_w, i32_w]; rw [c15b0]) | skip)
      have H' := Aside0.mk H
      clear H
      go_wp2
      repeat (go_quiet (fail); try go_wp2)
      go_meet
      case rel => exact ⟨_, (true), (by first | rfl | (simp; done) | (simp [*]; done)), H', ⟨by first | omega | exact Nat.le_refl _⟩, ⟨by (with_reducible repeat (first | apply Kd.S_alloc | apply Kd.S_drewN | apply Kd.S_drew)); exact Kd.S_mono HO910.out (fun _ hk => ⟨hk.2, hk.1.2⟩)⟩, ⟨by (with_reducible repeat (first | apply Kd.S_alloc | apply Kd.S_drewN | apply Kd.S_drew)); exact Kd.S_mono HO914.out (fun _ hk => ⟨hk.1.2, hk.2⟩)⟩, ⟨by (with_reducible repeat (first | refine blk_drewN ?_ _ | refine blk_drew ?_ | refine blk_alloc ?_ _)); exact BK898.out⟩, ⟨by repeat (first | (with_reducible first | exact HB.out | apply below_alloc | apply pw_below_drewN | apply below_drew1 | refine below_set ?_ GE898.out) | exact HB.out)⟩⟩
  case rest =>
    clear HC7
    try clear c1
    try clear p2
    try clear c11
    try clear c15
    try clear c15b0
    try clear c15b1
    try clear c17
    try clear c18
    try clear c18b0
    try clear c18b1
    try clear hcz11_0
    try clear hcz11_1
    try clear hcz9_0
    try clear hcz9_1
    try clear hfz11_0
    try clear hfz11_1
    try clear hfz9_0
    try clear hfz9_1
    obtain ⟨kq, x54_6, rfl, HA, HJ6, HO_9, HO_11, BK898, HB⟩ := hcut
    cases kq with
    | zero => exact absurd HA.out (by simp [customslaw34_JournalEncode.j0])
    | succ kj6 =>
      have H := HA.out
      clear HA
      simp only [customslaw34_JournalEncode.j0] at H
      by_cases c27 : x54_6 = true
      · subst c27
        have H1 : (none) = some r := by rw [if_pos rfl] at H; exact H
        clear H
        have H := H1
        clear H1
        exact absurd H (by simp)
      · replace c27 := Bool.eq_false_iff.mpr c27
        subst c27
        have H1 : (customslaw34_JournalEncode.l0 kj6 t907 t911 0) = some r := by rw [if_neg (show ¬ (false = true) by decide)] at H; exact H
        clear H
        have H := H1
        clear H1
        have H' := Aside0.mk H
        clear H
        go_wp2
        repeat (go_quiet (fail); try go_wp2)
        go_loopg [13] kj6 (fun kq v13 w' => ∃ (x13_2 : Int), v13 = .int .i64 x13_2 ∧ Aside0 (customslaw34_JournalEncode.l0 kq t907 t911 x13_2 = some r) ∧ Aside0 (kq ≤ kj6) ∧ Aside0 (Kd.S k57 57 w' w.heap.size (fun k_ => some k_ ≠ (v913 : Value).ownBlock ∧ k_ ≠ gb898) v909 t907) ∧ Aside0 (Kd.S k57 57 w' w.heap.size (fun k_ => some k_ ≠ (v909 : Value).ownBlock ∧ k_ ≠ gb898) v913 t911) ∧ Aside0 (w'.heap[gb898]? = some (.cells #[.int .i64 a0_0, (.slice A0_1 l0_1.length c0_1)] 57 (0, 0))) ∧ Aside0 (Below w.heap.size w w'))
        case atStart => exact ⟨(0), (by first | rfl | (simp; done) | (simp [*]; done)), H', ⟨Nat.le_refl _⟩, ⟨by (with_reducible repeat (first | apply Kd.S_alloc | apply Kd.S_drewN | apply Kd.S_drew)); exact HO_9.out⟩, ⟨by (with_reducible repeat (first | apply Kd.S_alloc | apply Kd.S_drewN | apply Kd.S_drew)); exact HO_11.out⟩, ⟨by (with_reducible repeat (first | refine blk_drewN ?_ _ | refine blk_drew ?_ | refine blk_alloc ?_ _)); exact BK898.out⟩, ⟨by repeat (first | (with_reducible first | exact HB.out | apply below_alloc | apply pw_below_drewN | apply below_drew1 | refine below_set ?_ GE898.out) | exact HB.out)⟩⟩
        case round =>
          clear H'
          try clear c1
          try clear c2
          try clear p2
          try clear c11
          try clear c15
          try clear c15b0
          try clear c15b1
          try clear c17
          try clear c18
          try clear c18b0
          try clear c18b1
          try clear c27
          try clear hcz11_0
          try clear hcz11_1
          try clear hcz9_0
          try clear hcz9_1
          try clear hfz11_0
          try clear hfz11_1
          try clear hfz9_0
          try clear hfz9_1
          try clear p2
          obtain ⟨x13_2, rfl, HA, HK2, HO_9, HO_11, BK898, HB⟩ := hrel
          cases gk with
          | zero => exact absurd HA.out (by simp [customslaw34_JournalEncode.l0])
          | succ k2 =>
            have H := HA.out
            clear HA
            simp only [customslaw34_JournalEncode.l0] at H
            by_cases c28 : x13_2 < (t907.length : Int)
            · rw [if_pos c28] at H
              have c28b0 : decide (x13_2 < (t907.length : Int)) = true := decide_eq_true c28
              clear c28
              by_cases c29 : 0 ≤ x13_2
              · rw [if_pos c29] at H
                have c29b0 : decide (0 ≤ x13_2) = true := decide_eq_true c29
                clear c29
                by_cases c30 : x13_2 < (t911.length : Int)
                · rw [if_pos c30] at H
                  have c30b0 : decide (x13_2 < (t911.length : Int)) = true := decide_eq_true c30
                  clear c30
                  by_cases c31 : ((rd_T57 t907 x13_2).f0) = ((rd_T57 t911 x13_2).f0)
                  · rw [if_pos c31] at H
                    have c31b0 : (((rd_T57 t907 x13_2).f0) == ((rd_T57 t911 x13_2).f0)) = true := beq_iff_eq.mpr c31
                    have c31b1 : (((rd_T57 t907 x13_2).f0) != ((rd_T57 t911 x13_2).f0)) = false := bne_eq_false_iff_eq.mpr c31
                    clear c31
                    replace H := Option.bind_eq_some_iff.mp H
                    obtain ⟨t920, A320, H⟩ := H
                    replace H : (if t920 = true then (customslaw34_JournalEncode.l0 k2 t907 t911 (wrap64 (x13_2 + 1))) else (none)) = some r := H
                    have A32 := Aside0.mk A320
                    clear A320
                    by_cases c33 : t920 = true
                    · subst c33
                      have H1 : (customslaw34_JournalEncode.l0 k2 t907 t911 (wrap64 (x13_2 + 1))) = some r := by rw [if_pos rfl] at H; exact H
                      clear H
                      have H := H1
                      clear H1
                      have H' := Aside0.mk H
                      clear H
                      obtain ⟨Ao34, co34, eo34⟩ := Kd.S_slice HO_9.out
                      subst eo34
                      have p916 : 0 ≤ (x13_2 : Int) := of_decide_eq_true (by first | (with_reducible assumption) | assumption)
                      have q916 : x13_2 < (t907.length : Int) := of_decide_eq_true (by first | (with_reducible assumption) | assumption)
                      obtain ⟨ad916, A916_1, c916_1, e916, hx916_0, hx916_1, hl916_1, hi916_1⟩ := at_T57 (Kd.S_reads' HO_9.out).2.2 x13_2 p916 q916
                      cases e916
                      obtain ⟨ce916, hce916, hMe916, hcc916⟩ := Kd.S_get HO_9.out z57 x13_2 p916 (by first | exact q916 | exact of_decide_eq_true (by first | (with_reducible assumption) | assumption) | (have e_ := (Kd.S_reads' HO_9.out).1; omega))
                      obtain ⟨ve916_1, rfl, ge916_1⟩ := k57_openM hMe916
                      have hv916_1 := hcc916 1 _ rfl
                      rw [add_field _ _ 1 (by omega)] at hv916_1
                      replace hv916_1 := Option.some.inj (hv916_1.symm.trans hx916_1)
                      rw [hv916_1] at ge916_1
                      have HL916_1 := Aside0.mk (show Kd.R (Kd.int .u8) 5 _ _ _ _ ((rd_T57 t907 x13_2).f1) from ge916_1)
                      clear hv916_1 ge916_1
                      clear hcc916 hce916
                      have HR916_1 := Aside0.mk hi916_1
                      have HC916_1 := Aside0.mk hl916_1
                      clear hi916_1 hl916_1
                      replace p916 := eq_true p916
                      replace q916 := eq_true q916
                      obtain ⟨Ao35, co35, eo35⟩ := Kd.S_slice HO_11.out
                      subst eo35
                      have p917 : 0 ≤ (x13_2 : Int) := of_decide_eq_true (by first | (with_reducible assumption) | assumption)
                      have q917 : x13_2 < (t911.length : Int) := of_decide_eq_true (by first | (with_reducible assumption) | assumption)
                      obtain ⟨ad917, A917_1, c917_1, e917, hx917_0, hx917_1, hl917_1, hi917_1⟩ := at_T57 (Kd.S_reads' HO_11.out).2.2 x13_2 p917 q917
                      cases e917
                      obtain ⟨ce917, hce917, hMe917, hcc917⟩ := Kd.S_get HO_11.out z57 x13_2 p917 (by first | exact q917 | exact of_decide_eq_true (by first | (with_reducible assumption) | assumption) | (have e_ := (Kd.S_reads' HO_11.out).1; omega))
                      obtain ⟨ve917_1, rfl, ge917_1⟩ := k57_openM hMe917
                      have hv917_1 := hcc917 1 _ rfl
                      rw [add_field _ _ 1 (by omega)] at hv917_1
                      replace hv917_1 := Option.some.inj (hv917_1.symm.trans hx917_1)
                      rw [hv917_1] at ge917_1
                      have HL917_1 := Aside0.mk (show Kd.R (Kd.int .u8) 5 _ _ _ _ ((rd_T57 t911 x13_2).f1) from ge917_1)
                      clear hv917_1 ge917_1
                      clear hcc917 hce917
                      have HR917_1 := Aside0.mk hi917_1
                      have HC917_1 := Aside0.mk hl917_1
                      clear hi917_1 hl917_1
                      replace p917 := eq_true p917
                      replace q917 := eq_true q917
                      have p918 : 0 ≤ (x13_2 : Int) := of_decide_eq_true (by first | (with_reducible assumption) | assumption)
                      have q918 : x13_2 < (t907.length : Int) := of_decide_eq_true (by first | (with_reducible assumption) | assumption)
                      obtain ⟨ad918, A918_1, c918_1, e918, hx918_0, hx918_1, hl918_1, hi918_1⟩ := at_T57 (Kd.S_reads' HO_9.out).2.2 x13_2 p918 q918
                      obtain rfl : ad916 = ad918 := (by injection e918)
                      obtain ⟨ce918, hce918, hMe918, hcc918⟩ := Kd.S_get HO_9.out z57 x13_2 p918 (by first | exact q918 | exact of_decide_eq_true (by first | (with_reducible assumption) | assumption) | (have e_ := (Kd.S_reads' HO_9.out).1; omega))
                      obtain ⟨ve918_1, rfl, ge918_1⟩ := k57_openM hMe918
                      have hv918_1 := hcc918 1 _ rfl
                      rw [add_field _ _ 1 (by omega)] at hv918_1
                      replace hv918_1 := Option.some.inj (hv918_1.symm.trans hx918_1)
                      rw [hv918_1] at ge918_1
                      have HL918_1 := Aside0.mk (show Kd.R (Kd.int .u8) 5 _ _ _ _ ((rd_T57 t907 x13_2).f1) from ge918_1)
                      clear hv918_1 ge918_1
                      clear hcc918 hce918
                      have HR918_1 := Aside0.mk hi918_1
                      have HC918_1 := Aside0.mk hl918_1
                      clear hi918_1 hl918_1
                      replace p918 := eq_true p918
                      replace q918 := eq_true q918
                      have ea_ := Option.some.inj (hx916_1.symm.trans hx918_1)
                      injection ea_ with ea_ en_ ec_
                      subst ea_
                      subst ec_
                      clear en_
                      have p919 : 0 ≤ (x13_2 : Int) := of_decide_eq_true (by first | (with_reducible assumption) | assumption)
                      have q919 : x13_2 < (t911.length : Int) := of_decide_eq_true (by first | (with_reducible assumption) | assumption)
                      obtain ⟨ad919, A919_1, c919_1, e919, hx919_0, hx919_1, hl919_1, hi919_1⟩ := at_T57 (Kd.S_reads' HO_11.out).2.2 x13_2 p919 q919
                      obtain rfl : ad917 = ad919 := (by injection e919)
                      obtain ⟨ce919, hce919, hMe919, hcc919⟩ := Kd.S_get HO_11.out z57 x13_2 p919 (by first | exact q919 | exact of_decide_eq_true (by first | (with_reducible assumption) | assumption) | (have e_ := (Kd.S_reads' HO_11.out).1; omega))
                      obtain ⟨ve919_1, rfl, ge919_1⟩ := k57_openM hMe919
                      have hv919_1 := hcc919 1 _ rfl
                      rw [add_field _ _ 1 (by omega)] at hv919_1
                      replace hv919_1 := Option.some.inj (hv919_1.symm.trans hx919_1)
                      rw [hv919_1] at ge919_1
                      have HL919_1 := Aside0.mk (show Kd.R (Kd.int .u8) 5 _ _ _ _ ((rd_T57 t911 x13_2).f1) from ge919_1)
                      clear hv919_1 ge919_1
                      clear hcc919 hce919
                      have HR919_1 := Aside0.mk hi919_1
                      have HC919_1 := Aside0.mk hl919_1
                      clear hi919_1 hl919_1
                      replace p919 := eq_true p919
                      replace q919 := eq_true q919
                      have ea_ := Option.some.inj (hx917_1.symm.trans hx919_1)
                      injection ea_ with ea_ en_ ec_
                      subst ea_
                      subst ec_
                      clear en_
                      go_wp2_with (first | (go_at_call 21; (with_reducible refine (customsref33_SameBytes.calls _ _ ((rd_T57 t907 x13_2).f1) _ _ ((rd_T57 t911 x13_2).f1) true _ ?side1 ?side2 ?side3 ?side4 A32.out).mono ?_); (case side1 => repeat (first | exact (by repeat (first | (with_reducible exact HR918_1.out) | (with_reducible refine Kd.C_alloc ?_ _) | (with_reducible refine Kd.C_drewN ?_ _) | (with_reducible refine Kd.C_drew ?_) | exact HR918_1.out)) | (with_reducible refine Kd.C_alloc ?_ _) | (with_reducible refine Kd.C_drewN ?_ _) | (with_reducible refine Kd.C_drew ?_))); (case side2 => exact HC918_1.out); (case side3 => repeat (first | exact (by repeat (first | (with_reducible exact HR919_1.out) | (with_reducible refine Kd.C_alloc ?_ _) | (with_reducible refine Kd.C_drewN ?_ _) | (with_reducible refine Kd.C_drew ?_) | exact HR919_1.out)) | (with_reducible refine Kd.C_alloc ?_ _) | (with_reducible refine Kd.C_drewN ?_ _) | (with_reducible refine Kd.C_drew ?_))); (case side4 => exact HC919_1.out); rintro e w' ⟨rfl, ⟨nd, rfl⟩⟩; (try first | exact ⟨rfl, _, World.drewN_drewN _ _ _⟩ | exact ⟨rfl, _, Eq.trans (World.drewN_drewN _ _ _) (congrArg (World.drewN _) (Nat.add_assoc _ _ _))⟩)))
                      repeat (go_quiet (first | (go_at_call 21; (with_reducible refine (customsref33_SameBytes.calls _ _ ((rd_T57 t907 x13_2).f1) _ _ ((rd_T57 t911 x13_2).f1) true _ ?side1 ?side2 ?side3 ?side4 A32.out).mono ?_); (case side1 => repeat (first | exact (by repeat (first | (with_reducible exact HR918_1.out) | (with_reducible refine Kd.C_alloc ?_ _) | (with_reducible refine Kd.C_drewN ?_ _) | (with_reducible refine Kd.C_drew ?_) | exact HR918_1.out)) | (with_reducible refine Kd.C_alloc ?_ _) | (with_reducible refine Kd.C_drewN ?_ _) | (with_reducible refine Kd.C_drew ?_))); (case side2 => exact HC918_1.out); (case side3 => repeat (first | exact (by repeat (first | (with_reducible exact HR919_1.out) | (with_reducible refine Kd.C_alloc ?_ _) | (with_reducible refine Kd.C_drewN ?_ _) | (with_reducible refine Kd.C_drew ?_) | exact HR919_1.out)) | (with_reducible refine Kd.C_alloc ?_ _) | (with_reducible refine Kd.C_drewN ?_ _) | (with_reducible refine Kd.C_drew ?_))); (case side4 => exact HC919_1.out); rintro e w' ⟨rfl, ⟨nd, rfl⟩⟩; (try first | exact ⟨rfl, _, World.drewN_drewN _ _ _⟩ | exact ⟨rfl, _, Eq.trans (World.drewN_drewN _ _ _) (congrArg (World.drewN _) (Nat.add_assoc _ _ _))⟩))); try go_wp2_with (first | (go_at_call 21; (with_reducible refine (customsref33_SameBytes.calls _ _ ((rd_T57 t907 x13_2).f1) _ _ ((rd_T57 t911 x13_2).f1) true _ ?side1 ?side2 ?side3 ?side4 A32.out).mono ?_); (case side1 => repeat (first | exact (by repeat (first | (with_reducible exact HR918_1.out) | (with_reducible refine Kd.C_alloc ?_ _) | (with_reducible refine Kd.C_drewN ?_ _) | (with_reducible refine Kd.C_drew ?_) | exact HR918_1.out)) | (with_reducible refine Kd.C_alloc ?_ _) | (with_reducible refine Kd.C_drewN ?_ _) | (with_reducible refine Kd.C_drew ?_))); (case side2 => exact HC918_1.out); (case side3 => repeat (first | exact (by repeat (first | (with_reducible exact HR919_1.out) | (with_reducible refine Kd.C_alloc ?_ _) | (with_reducible refine Kd.C_drewN ?_ _) | (with_reducible refine Kd.C_drew ?_) | exact HR919_1.out)) | (with_reducible refine Kd.C_alloc ?_ _) | (with_reducible refine Kd.C_drewN ?_ _) | (with_reducible refine Kd.C_drew ?_))); (case side4 => exact HC919_1.out); rintro e w' ⟨rfl, ⟨nd, rfl⟩⟩; (try first | exact ⟨rfl, _, World.drewN_drewN _ _ _⟩ | exact ⟨rfl, _, Eq.trans (World.drewN_drewN _ _ _) (congrArg (World.drewN _) (Nat.add_assoc _ _ _))⟩))))
                      go_roundg k2
                      case measure => have := HJ6.out; have := HK2.out; omega
                      case rel => exact ⟨(wrap64 (x13_2 + 1)), (by first | rfl | (simp; done) | (simp [*]; done)), H', ⟨by have := HJ6.out; have := HK2.out; omega⟩, ⟨by (with_reducible repeat (first | apply Kd.S_alloc | apply Kd.S_drewN | apply Kd.S_drew)); exact HO_9.out⟩, ⟨by (with_reducible repeat (first | apply Kd.S_alloc | apply Kd.S_drewN | apply Kd.S_drew)); exact HO_11.out⟩, ⟨by (with_reducible repeat (first | refine blk_drewN ?_ _ | refine blk_drew ?_ | refine blk_alloc ?_ _)); exact BK898.out⟩, ⟨by repeat (first | (with_reducible first | exact HB.out | apply below_alloc | apply pw_below_drewN | apply below_drew1 | refine below_set ?_ GE898.out) | exact HB.out)⟩⟩
                    · replace c33 := Bool.eq_false_iff.mpr c33
                      subst c33
                      have H1 : (none) = some r := by rw [if_neg (show ¬ (false = true) by decide)] at H; exact H
                      clear H
                      have H := H1
                      clear H1
                      exact absurd H (by simp)
                  · rw [if_neg c31] at H
                    exact absurd H (by simp)
                · rw [if_neg c30] at H
                  exact absurd H (by simp)
              · rw [if_neg c29] at H
                exact absurd H (by simp)
            · rw [if_neg c28] at H
              have c28b0 : decide (x13_2 < (t907.length : Int)) = false := decide_eq_false c28
              clear c28
              replace H := Option.bind_eq_some_iff.mp H
              obtain ⟨t921, A360, H⟩ := H
              replace H : (some t921) = some r := H
              have A36 := Aside0.mk A360
              clear A360
              obtain rfl := Option.some.inj H
              obtain ⟨Ao37, co37, eo37⟩ := Kd.S_slice HO_9.out
              subst eo37
              go_wp2_with (first | (go_at_call 55; (with_reducible refine (customslaw34_awake.calls k2  t921 _ A36.out).mono ?_); rintro e w38 ⟨rfl, hb⟩; have n0_ := Aside0.mk (Kd.S_below (by (with_reducible repeat (first | apply Kd.S_alloc | apply Kd.S_drewN | apply Kd.S_drew)); exact HO_9.out) hb); have n1_ := Aside0.mk (Kd.S_below (by (with_reducible repeat (first | apply Kd.S_alloc | apply Kd.S_drewN | apply Kd.S_drew)); exact HO_11.out) hb); have n2_ := Aside0.mk (blk_below (g := gb898) (o := .cells #[.int .i64 a0_0, .slice A0_1 l0_1.length c0_1] 57 (0, 0)) (by (with_reducible repeat (first | refine blk_drewN ?_ _ | refine blk_drew ?_ | refine blk_alloc ?_ _)); exact BK898.out) hb); have n3_ := Aside0.mk (below_step (by repeat (first | (with_reducible first | exact HB.out | apply below_alloc | apply pw_below_drewN | apply below_drew1 | refine below_set ?_ GE898.out) | exact HB.out)) hb); clear HO_9; clear HO_11; clear BK898; clear HB; have HO_9 := n0_; have HO_11 := n1_; have BK898 := n2_; have HB := n3_; clear n0_ n1_ n2_ n3_; (try clear hb); (try clear hb2); (try clear hk); (try clear hi)))
              repeat (go_quiet (first | (go_at_call 55; (with_reducible refine (customslaw34_awake.calls k2  t921 _ A36.out).mono ?_); rintro e w38 ⟨rfl, hb⟩; have n0_ := Aside0.mk (Kd.S_below (by (with_reducible repeat (first | apply Kd.S_alloc | apply Kd.S_drewN | apply Kd.S_drew)); exact HO_9.out) hb); have n1_ := Aside0.mk (Kd.S_below (by (with_reducible repeat (first | apply Kd.S_alloc | apply Kd.S_drewN | apply Kd.S_drew)); exact HO_11.out) hb); have n2_ := Aside0.mk (blk_below (g := gb898) (o := .cells #[.int .i64 a0_0, .slice A0_1 l0_1.length c0_1] 57 (0, 0)) (by (with_reducible repeat (first | refine blk_drewN ?_ _ | refine blk_drew ?_ | refine blk_alloc ?_ _)); exact BK898.out) hb); have n3_ := Aside0.mk (below_step (by repeat (first | (with_reducible first | exact HB.out | apply below_alloc | apply pw_below_drewN | apply below_drew1 | refine below_set ?_ GE898.out) | exact HB.out)) hb); clear HO_9; clear HO_11; clear BK898; clear HB; have HO_9 := n0_; have HO_11 := n1_; have BK898 := n2_; have HB := n3_; clear n0_ n1_ n2_ n3_; (try clear hb); (try clear hb2); (try clear hk); (try clear hi))); try go_wp2_with (first | (go_at_call 55; (with_reducible refine (customslaw34_awake.calls k2  t921 _ A36.out).mono ?_); rintro e w38 ⟨rfl, hb⟩; have n0_ := Aside0.mk (Kd.S_below (by (with_reducible repeat (first | apply Kd.S_alloc | apply Kd.S_drewN | apply Kd.S_drew)); exact HO_9.out) hb); have n1_ := Aside0.mk (Kd.S_below (by (with_reducible repeat (first | apply Kd.S_alloc | apply Kd.S_drewN | apply Kd.S_drew)); exact HO_11.out) hb); have n2_ := Aside0.mk (blk_below (g := gb898) (o := .cells #[.int .i64 a0_0, .slice A0_1 l0_1.length c0_1] 57 (0, 0)) (by (with_reducible repeat (first | refine blk_drewN ?_ _ | refine blk_drew ?_ | refine blk_alloc ?_ _)); exact BK898.out) hb); have n3_ := Aside0.mk (below_step (by repeat (first | (with_reducible first | exact HB.out | apply below_alloc | apply pw_below_drewN | apply below_drew1 | refine below_set ?_ GE898.out) | exact HB.out)) hb); clear HO_9; clear HO_11; clear BK898; clear HB; have HO_9 := n0_; have HO_11 := n1_; have BK898 := n2_; have HB := n3_; clear n0_ n1_ n2_ n3_; (try clear hb); (try clear hb2); (try clear hk); (try clear hi))))
              go_ret
              exact ⟨by first | rfl | (simp [errW_none, errW_some] <;> rfl) | (simp [*, errW_none, errW_some] <;> rfl), by repeat (first | (with_reducible first | exact HB.out | apply below_alloc | apply pw_below_drewN | apply below_drew1 | refine below_set ?_ GE898.out) | exact HB.out)⟩

end Go.Proofs.Ytfljnggpnndmkaa.Z
