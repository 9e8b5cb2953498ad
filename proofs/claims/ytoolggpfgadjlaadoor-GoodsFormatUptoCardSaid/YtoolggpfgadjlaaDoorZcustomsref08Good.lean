/- Printed: a Go function in plain Lean, and that its call does what it says. Conditions: those each theorem states. -/
import Derived.Test.YtoolggpfgadjlaaDoorZ0
import Derived.Test.YtoolggpfgadjlaaDoorZcustomsref08Word
import Derived.Test.YtoolggpfgadjlaaDoorZcustomsref08Words
namespace Go.Proofs.YtoolggpfgadjlaaDoor.Z
open Go.RowKit Go.Proofs.YtoolggpfgadjlaaDoorW.PrintWords Go.Proofs.YtoolggpfgadjlaaDoorW.PrintLast Go.Proofs.YtoolggpfgadjlaaDoorW.PrintMore
attribute [local go_sem high] str_leq str_geq str_gtr   -- strings
attribute [local go_sem] max2_int min2_int max_two min_two max_three min_three max_four min_four   -- for this text's walks alone
set_option linter.unusedVariables false
set_option linter.unusedSimpArgs false

/-! ### customsref08_Good: function 11 -/
mutual
def customsref08_Good.j0 : Nat → Bool → List ByteArray → List (S36) → List (S38) → Bool → Option (Int)
 | 0, _, _, _, _, _ => none
 | k + 1, x21, x11002000, x11002001, x11002002, x11002003 => if x21 = true then (some 1) else (if (x11002001.length : Int) > 8 then (customsref08_Good.j1 k true x11002000 x11002001 x11002002 x11002003) else (customsref08_Good.j1 k (decide ((x11002002.length : Int) > 6)) x11002000 x11002001 x11002002 x11002003))
def customsref08_Good.j1 : Nat → Bool → List ByteArray → List (S36) → List (S38) → Bool → Option (Int)
 | 0, _, _, _, _, _ => none
 | k + 1, x31, x11002000, x11002001, x11002002, x11002003 => if x31 = true then (some 8) else (customsref08_Good.l0 k 0 0 false 0 x11002000 x11002001 x11002002 x11002003)
def customsref08_Good.l0 : Nat → Int → Int → Bool → Int → List ByteArray → List (S36) → List (S38) → Bool → Option (Int)
 | 0, _, _, _, _, _, _, _, _ => none
 | k + 1, x3, x4, x5, x6, x11002000, x11002001, x11002002, x11002003 => if x6 < (x11002001.length : Int) then (if 0 ≤ x6 then ((customsref08_Word.f k ((rd_T36 x11002001 x6).f0)).bind fun t11005 => (if t11005 = true then (if x6 > 0 then (if 0 ≤ (wrap64 (x6 - 1)) then (if (wrap64 (x6 - 1)) < (x11002001.length : Int) then (if ((Op.bytesLess (((rd_T36 x11002001 (wrap64 (x6 - 1))).f0).toList) (((rd_T36 x11002001 x6).f0).toList)) = true) then (customsref08_Good.l0 k x3 x4 x5 (wrap64 (x6 + 1)) x11002000 x11002001 x11002002 x11002003) else (some 1)) else (none)) else (none)) else (customsref08_Good.l0 k x3 x4 x5 (wrap64 (x6 + 1)) x11002000 x11002001 x11002002 x11002003)) else (some 1))) else (none)) else (customsref08_Good.l1 k x3 x4 x5 0 x11002000 x11002001 x11002002 x11002003)
def customsref08_Good.l1 : Nat → Int → Int → Bool → Int → List ByteArray → List (S36) → List (S38) → Bool → Option (Int)
 | 0, _, _, _, _, _, _, _, _ => none
 | k + 1, x3, x4, x5, x8, x11002000, x11002001, x11002002, x11002003 => if x8 < (x11002002.length : Int) then (if 0 ≤ x8 then ((customsref08_Words.f k ((rd_T38 x11002002 x8).f0)).bind fun t11008 => (if t11008 = true then (if (((rd_T38 x11002002 x8).f0).length : Int) = 0 then (some 1) else (if x5 = true then (customsref08_Good.l1 k x3 x4 true (wrap64 (x8 + 1)) x11002000 x11002001 x11002002 x11002003) else (if ((rd_T38 x11002002 x8).f1) < 1 then (customsref08_Good.l1 k x3 x4 true (wrap64 (x8 + 1)) x11002000 x11002001 x11002002 x11002003) else (customsref08_Good.l1 k x3 x4 (decide (((rd_T38 x11002002 x8).f1) > 1000000)) (wrap64 (x8 + 1)) x11002000 x11002001 x11002002 x11002003)))) else (some 1))) else (none)) else (customsref08_Good.l2 k x3 x4 x5 0 x11002000 x11002001 x11002002 x11002003)
def customsref08_Good.l2 : Nat → Int → Int → Bool → Int → List ByteArray → List (S36) → List (S38) → Bool → Option (Int)
 | 0, _, _, _, _, _, _, _, _ => none
 | k + 1, x3, x4, x5, x9, x11002000, x11002001, x11002002, x11002003 => if x9 < (x11002001.length : Int) then (if x5 = true then (customsref08_Good.l2 k x3 x4 true (wrap64 (x9 + 1)) x11002000 x11002001 x11002002 x11002003) else (if 0 ≤ x9 then (if ((rd_T36 x11002001 x9).f1) < 1 then (customsref08_Good.l2 k x3 x4 true (wrap64 (x9 + 1)) x11002000 x11002001 x11002002 x11002003) else (customsref08_Good.l2 k x3 x4 (decide (((rd_T36 x11002001 x9).f1) > 1000000)) (wrap64 (x9 + 1)) x11002000 x11002001 x11002002 x11002003)) else (none))) else (if x5 = true then (some 2) else (customsref08_Good.l3 k x3 x4 0 x11002000 x11002001 x11002002 x11002003))
def customsref08_Good.l3 : Nat → Int → Int → Int → List ByteArray → List (S36) → List (S38) → Bool → Option (Int)
 | 0, _, _, _, _, _, _, _ => none
 | k + 1, x3, x4, x10, x11002000, x11002001, x11002002, x11002003 => if x10 < (x11002001.length : Int) then (if 0 ≤ x10 then (customsref08_Good.l3 k (wrap64 (x3 + ((rd_T36 x11002001 x10).f1))) x4 (wrap64 (x10 + 1)) x11002000 x11002001 x11002002 x11002003) else (none)) else (customsref08_Good.l4 k x3 x4 0 x11002000 x11002001 x11002002 x11002003)
def customsref08_Good.l4 : Nat → Int → Int → Int → List ByteArray → List (S36) → List (S38) → Bool → Option (Int)
 | 0, _, _, _, _, _, _, _ => none
 | k + 1, x3, x4, x11, x11002000, x11002001, x11002002, x11002003 => if x11 < (x11002002.length : Int) then (if 0 ≤ x11 then (customsref08_Good.l4 k x3 (wrap64 (x4 + ((rd_T38 x11002002 x11).f1))) (wrap64 (x11 + 1)) x11002000 x11002001 x11002002 x11002003) else (none)) else (if (x11002001.length : Int) > 0 then (if x3 = 1000000 then (if (x11002002.length : Int) > 0 then (if x4 = 1000000 then (some 0) else (some 1)) else (some 0)) else (some 1)) else (if (x11002002.length : Int) > 0 then (if x4 = 1000000 then (some 0) else (some 1)) else (some 0)))
end
def customsref08_Good.f (k : Nat) (l0_0 : List ByteArray) (l0_1 : List (S36)) (l0_2 : List (S38)) (a0_3 : Bool) : Option (Int) := (customsref08_Words.f k l0_0).bind fun t11002 => (if t11002 = true then (customsref08_Good.j0 k ((l0_0.length : Int) == 0) l0_0 l0_1 l0_2 a0_3) else (customsref08_Good.j0 k true l0_0 l0_1 l0_2 a0_3))
theorem customsref08_Good.mono_l : ∀ k, (∀ y0 y1 y2 y3 y4, LeO (customsref08_Good.j0 k y0 y1 y2 y3 y4) (customsref08_Good.j0 (k + 1) y0 y1 y2 y3 y4)) ∧ (∀ y0 y1 y2 y3 y4, LeO (customsref08_Good.j1 k y0 y1 y2 y3 y4) (customsref08_Good.j1 (k + 1) y0 y1 y2 y3 y4)) ∧ (∀ y0 y1 y2 y3 y4 y5 y6 y7, LeO (customsref08_Good.l0 k y0 y1 y2 y3 y4 y5 y6 y7) (customsref08_Good.l0 (k + 1) y0 y1 y2 y3 y4 y5 y6 y7)) ∧ (∀ y0 y1 y2 y3 y4 y5 y6 y7, LeO (customsref08_Good.l1 k y0 y1 y2 y3 y4 y5 y6 y7) (customsref08_Good.l1 (k + 1) y0 y1 y2 y3 y4 y5 y6 y7)) ∧ (∀ y0 y1 y2 y3 y4 y5 y6 y7, LeO (customsref08_Good.l2 k y0 y1 y2 y3 y4 y5 y6 y7) (customsref08_Good.l2 (k + 1) y0 y1 y2 y3 y4 y5 y6 y7)) ∧ (∀ y0 y1 y2 y3 y4 y5 y6, LeO (customsref08_Good.l3 k y0 y1 y2 y3 y4 y5 y6) (customsref08_Good.l3 (k + 1) y0 y1 y2 y3 y4 y5 y6)) ∧ (∀ y0 y1 y2 y3 y4 y5 y6, LeO (customsref08_Good.l4 k y0 y1 y2 y3 y4 y5 y6) (customsref08_Good.l4 (k + 1) y0 y1 y2 y3 y4 y5 y6))
 | 0 => ⟨fun _ _ _ _ _ r h => by simp [customsref08_Good.j0] at h, fun _ _ _ _ _ r h => by simp [customsref08_Good.j1] at h, fun _ _ _ _ _ _ _ _ r h => by simp [customsref08_Good.l0] at h, fun _ _ _ _ _ _ _ _ r h => by simp [customsref08_Good.l1] at h, fun _ _ _ _ _ _ _ _ r h => by simp [customsref08_Good.l2] at h, fun _ _ _ _ _ _ _ r h => by simp [customsref08_Good.l3] at h, fun _ _ _ _ _ _ _ r h => by simp [customsref08_Good.l4] at h⟩
 | k + 1 => by
  obtain ⟨ih0, ih1, ih2, ih3, ih4, ih5, ih6⟩ := customsref08_Good.mono_l k
  refine ⟨?_, ?_, ?_, ?_, ?_, ?_, ?_⟩ <;> intros
  all_goals first | unfold customsref08_Good.j0 | unfold customsref08_Good.j1 | unfold customsref08_Good.l0 | unfold customsref08_Good.l1 | unfold customsref08_Good.l2 | unfold customsref08_Good.l3 | unfold customsref08_Good.l4
  all_goals repeat' first
   | (with_reducible exact ih0 _ _ _ _ _)
   | (with_reducible exact ih1 _ _ _ _ _)
   | (with_reducible exact ih2 _ _ _ _ _ _ _ _)
   | (with_reducible exact ih3 _ _ _ _ _ _ _ _)
   | (with_reducible exact ih4 _ _ _ _ _ _ _ _)
   | (with_reducible exact ih5 _ _ _ _ _ _ _)
   | (with_reducible exact ih6 _ _ _ _ _ _ _)
   | (with_reducible exact customsref08_Word.mono _ _)
   | (with_reducible exact customsref08_Words.mono _ _)
   | (with_reducible exact LeO.refl _)
   | (with_reducible exact LeO.none _)
   | (with_reducible refine LeO.ite ?_ ?_)
   | (with_reducible refine LeO.bind ?_ (fun _ => ?_))
   | exact ih0 _ _ _ _ _
   | exact ih1 _ _ _ _ _
   | exact ih2 _ _ _ _ _ _ _ _
   | exact ih3 _ _ _ _ _ _ _ _
   | exact ih4 _ _ _ _ _ _ _ _
   | exact ih5 _ _ _ _ _ _ _
   | exact ih6 _ _ _ _ _ _ _
   | exact customsref08_Word.mono _ _
   | exact customsref08_Words.mono _ _
   | exact LeO.none _
   | refine LeO.ite ?_ ?_
   | refine LeO.bind ?_ (fun _ => ?_)
theorem customsref08_Good.mono : ∀ a0 a1 a2 a3 k, LeO (customsref08_Good.f k a0 a1 a2 a3) (customsref08_Good.f (k + 1) a0 a1 a2 a3) := by
 intro a0 a1 a2 a3 k
 obtain ⟨ih0, ih1, ih2, ih3, ih4, ih5, ih6⟩ := customsref08_Good.mono_l k
 unfold customsref08_Good.f
 repeat' first
   | (with_reducible exact ih0 _ _ _ _ _)
   | (with_reducible exact ih1 _ _ _ _ _)
   | (with_reducible exact ih2 _ _ _ _ _ _ _ _)
   | (with_reducible exact ih3 _ _ _ _ _ _ _ _)
   | (with_reducible exact ih4 _ _ _ _ _ _ _ _)
   | (with_reducible exact ih5 _ _ _ _ _ _ _)
   | (with_reducible exact ih6 _ _ _ _ _ _ _)
   | (with_reducible exact customsref08_Word.mono _ _)
   | (with_reducible exact customsref08_Words.mono _ _)
   | (with_reducible exact LeO.refl _)
   | (with_reducible exact LeO.none _)
   | (with_reducible refine LeO.ite ?_ ?_)
   | (with_reducible refine LeO.bind ?_ (fun _ => ?_))
   | exact ih0 _ _ _ _ _
   | exact ih1 _ _ _ _ _
   | exact ih2 _ _ _ _ _ _ _ _
   | exact ih3 _ _ _ _ _ _ _ _
   | exact ih4 _ _ _ _ _ _ _ _
   | exact ih5 _ _ _ _ _ _ _
   | exact ih6 _ _ _ _ _ _ _
   | exact customsref08_Word.mono _ _
   | exact customsref08_Words.mono _ _
   | exact LeO.none _
   | refine LeO.ite ?_ ?_
   | refine LeO.bind ?_ (fun _ => ?_)
set_option maxHeartbeats 8000000 in
set_option maxRecDepth 100000 in
theorem customsref08_Good.calls (k : Nat) (A0_0 : Option Addr) (c0_0 : Nat) (l0_0 : List ByteArray) (A0_1 : Option Addr) (c0_1 : Nat) (l0_1 : List (S36)) (A0_2 : Option Addr) (c0_2 : Nat) (l0_2 : List (S38)) (a0_3 : Bool) (r : Int) (w : World) (hr0_0 : Kd.C Kd.string w A0_0 l0_0.length l0_0) (hc0_0 : l0_0.length ≤ c0_0) (hr0_1 : Kd.C k36 w A0_1 l0_1.length l0_1) (hc0_1 : l0_1.length ≤ c0_1) (hr0_2 : Kd.C k38 w A0_2 l0_2.length l0_2) (hc0_2 : l0_2.length ≤ c0_2) (h : customsref08_Good.f k l0_0 l0_1 l0_2 a0_3 = some r) :
  Calls Tryd.prog 11 #[.agg #[.slice A0_0 l0_0.length c0_0, .slice A0_1 l0_1.length c0_1, .slice A0_2 l0_2.length c0_2, .bool a0_3]] w fun e w' => e = .returned (.int .i64 r) ∧ Below w.heap.size w w' := by
 have hu26 := Tryd.underlying26
 have hu36 := Tryd.underlying36
 have HR0_0 := Aside0.mk hr0_0
 have HC0_0 := Aside0.mk hc0_0
 clear hr0_0 hc0_0
 have HR0_1 := Aside0.mk hr0_1
 have HC0_1 := Aside0.mk hc0_1
 clear hr0_1 hc0_1
 have HR0_2 := Aside0.mk hr0_2
 have HC0_2 := Aside0.mk hc0_2
 clear hr0_2 hc0_2
 have HB := Aside0.mk (Below.refl w.heap.size w)
 have H : ((customsref08_Words.f k l0_0).bind fun t11002 => (if t11002 = true then (customsref08_Good.j0 k ((l0_0.length : Int) == 0) l0_0 l0_1 l0_2 a0_3) else (customsref08_Good.j0 k true l0_0 l0_1 l0_2 a0_3))) = some r := h
 clear h
 have HC2 := Aside0.mk H
 clear H
 go_enter Tryd.func11, Tryd.ntmps11
 go_upto_region 1 with (first | ((with_reducible refine gate_dst (N := 1) rfl ?_); (try (refine gate_guard (by rfl) ?_; dsimp only)); refine box_event ?hg (N := 1) ?hd (cs := #[.slice A0_0 l0_0.length c0_0, .slice A0_1 l0_1.length c0_1, .slice A0_2 l0_2.length c0_2, .bool a0_3]) (t := 26) ?hr ?_; (case hd => rfl); (case hg => rfl); (case hr => exact goR); intro gb11001 hg w3 hbox hb; have BK11001 := Aside0.mk (hbox); have GW11001 := gwE hg HB; have GE11001 := GW11001; have GI11001 := GE_.mk GE11001.out; replace HB := mvH HB hb; clear hb hbox hg))
 repeat (go_quiet (first | ((with_reducible refine gate_dst (N := 1) rfl ?_); (try (refine gate_guard (by rfl) ?_; dsimp only)); refine box_event ?hg (N := 1) ?hd (cs := #[.slice A0_0 l0_0.length c0_0, .slice A0_1 l0_1.length c0_1, .slice A0_2 l0_2.length c0_2, .bool a0_3]) (t := 26) ?hr ?_; (case hd => rfl); (case hg => rfl); (case hr => exact goR); intro gb11001 hg w3 hbox hb; have BK11001 := Aside0.mk (hbox); have GW11001 := gwE hg HB; have GE11001 := GW11001; have GI11001 := GE_.mk GE11001.out; replace HB := mvH HB hb; clear hb hbox hg)); go_upto_region 1 with (first | ((with_reducible refine gate_dst (N := 1) rfl ?_); (try (refine gate_guard (by rfl) ?_; dsimp only)); refine box_event ?hg (N := 1) ?hd (cs := #[.slice A0_0 l0_0.length c0_0, .slice A0_1 l0_1.length c0_1, .slice A0_2 l0_2.length c0_2, .bool a0_3]) (t := 26) ?hr ?_; (case hd => rfl); (case hg => rfl); (case hr => exact goR); intro gb11001 hg w3 hbox hb; have BK11001 := Aside0.mk (hbox); have GW11001 := gwE hg HB; have GE11001 := GW11001; have GI11001 := GE_.mk GE11001.out; replace HB := mvH HB hb; clear hb hbox hg)))
 (try simp only [Act.put, List.setIfInBounds_toArray, List.set_cons_zero, List.set_cons_succ])
 go_cut [21] (fun v21 wc => ∃ (kq : Nat) (x21_1 : Bool), v21 = .bool x21_1 ∧ Aside0 (customsref08_Good.j0 kq x21_1 l0_0 l0_1 l0_2 a0_3 = some r) ∧ Aside0 (kq ≤ k) ∧ Aside0 (wc.heap[gb11001]? = some (.cells #[(.slice A0_0 l0_0.length c0_0), (.slice A0_1 l0_1.length c0_1), (.slice A0_2 l0_2.length c0_2), .bool a0_3] 26 (0, 0))) ∧ Aside0 (Below w.heap.size w wc))
 case first =>
  have H := HC2.out
  clear HC2
  replace H := Option.bind_eq_some_iff.mp H
  obtain ⟨t11002, A40, H⟩ := H
  try dsimp only at H
  have A4 := Aside0.mk A40
  clear A40
  by_cases c5 : t11002 = true
  ·
   subst c5
   have H1 : (customsref08_Good.j0 k ((l0_0.length : Int) == 0) l0_0 l0_1 l0_2 a0_3) = some r := by rw [if_pos rfl] at H; exact H
   clear H
   have H := H1
   clear H1
   have H' := Aside0.mk H
   clear H
   obtain ⟨hcz6_0, hcz6_1, hcz6_2, hcz6_3, hfz6_0, hfz6_1, hfz6_2, hfz6_3⟩ := bk4 BK11001.out
   go_wp2_with (first | (go_at_call 30; (with_reducible refine (customsref08_Words.calls k _ _ l0_0 true _ ?side1 ?side2 A4.out).mono ?_); (case side1 => repeat (first | exact (Kd.C_below HR0_0.out HB.out) | (with_reducible refine Kd.C_alloc ?_ _) | (with_reducible refine Kd.C_drewN ?_ _) | (with_reducible refine Kd.C_drew ?_))); (case side2 => exact HC0_0.out); rintro e w' ⟨rfl, ⟨nd, rfl⟩⟩; (try first | exact ⟨rfl, _, World.drewN_drewN _ _ _⟩ | exact ⟨rfl, _, Eq.trans (World.drewN_drewN _ _ _) (congrArg (World.drewN _) (Nat.add_assoc _ _ _))⟩)))
   repeat (go_quiet (first | (go_at_call 30; (with_reducible refine (customsref08_Words.calls k _ _ l0_0 true _ ?side1 ?side2 A4.out).mono ?_); (case side1 => repeat (first | exact (Kd.C_below HR0_0.out HB.out) | (with_reducible refine Kd.C_alloc ?_ _) | (with_reducible refine Kd.C_drewN ?_ _) | (with_reducible refine Kd.C_drew ?_))); (case side2 => exact HC0_0.out); rintro e w' ⟨rfl, ⟨nd, rfl⟩⟩; (try first | exact ⟨rfl, _, World.drewN_drewN _ _ _⟩ | exact ⟨rfl, _, Eq.trans (World.drewN_drewN _ _ _) (congrArg (World.drewN _) (Nat.add_assoc _ _ _))⟩))); try go_wp2_with (first | (go_at_call 30; (with_reducible refine (customsref08_Words.calls k _ _ l0_0 true _ ?side1 ?side2 A4.out).mono ?_); (case side1 => repeat (first | exact (Kd.C_below HR0_0.out HB.out) | (with_reducible refine Kd.C_alloc ?_ _) | (with_reducible refine Kd.C_drewN ?_ _) | (with_reducible refine Kd.C_drew ?_))); (case side2 => exact HC0_0.out); rintro e w' ⟨rfl, ⟨nd, rfl⟩⟩; (try first | exact ⟨rfl, _, World.drewN_drewN _ _ _⟩ | exact ⟨rfl, _, Eq.trans (World.drewN_drewN _ _ _) (congrArg (World.drewN _) (Nat.add_assoc _ _ _))⟩))))
   go_meet
   case rel => exact ⟨_, (((l0_0.length : Int) == 0)), rls, H', ⟨by first | omega | exact Nat.le_refl _⟩, ⟨blk_ext BK11001.out⟩, ⟨below_extB HB.out⟩⟩
  ·
   replace c5 := Bool.eq_false_iff.mpr c5
   subst c5
   have H1 : (customsref08_Good.j0 k true l0_0 l0_1 l0_2 a0_3) = some r := by rw [if_neg (show ¬ (false = true) by decide)] at H; exact H
   clear H
   have H := H1
   clear H1
   have H' := Aside0.mk H
   clear H
   obtain ⟨hcz7_0, hcz7_1, hcz7_2, hcz7_3, hfz7_0, hfz7_1, hfz7_2, hfz7_3⟩ := bk4 BK11001.out
   go_wp2_with (first | (go_at_call 30; (with_reducible refine (customsref08_Words.calls k _ _ l0_0 false _ ?side1 ?side2 A4.out).mono ?_); (case side1 => repeat (first | exact (Kd.C_below HR0_0.out HB.out) | (with_reducible refine Kd.C_alloc ?_ _) | (with_reducible refine Kd.C_drewN ?_ _) | (with_reducible refine Kd.C_drew ?_))); (case side2 => exact HC0_0.out); rintro e w' ⟨rfl, ⟨nd, rfl⟩⟩; (try first | exact ⟨rfl, _, World.drewN_drewN _ _ _⟩ | exact ⟨rfl, _, Eq.trans (World.drewN_drewN _ _ _) (congrArg (World.drewN _) (Nat.add_assoc _ _ _))⟩)))
   repeat (go_quiet (first | (go_at_call 30; (with_reducible refine (customsref08_Words.calls k _ _ l0_0 false _ ?side1 ?side2 A4.out).mono ?_); (case side1 => repeat (first | exact (Kd.C_below HR0_0.out HB.out) | (with_reducible refine Kd.C_alloc ?_ _) | (with_reducible refine Kd.C_drewN ?_ _) | (with_reducible refine Kd.C_drew ?_))); (case side2 => exact HC0_0.out); rintro e w' ⟨rfl, ⟨nd, rfl⟩⟩; (try first | exact ⟨rfl, _, World.drewN_drewN _ _ _⟩ | exact ⟨rfl, _, Eq.trans (World.drewN_drewN _ _ _) (congrArg (World.drewN _) (Nat.add_assoc _ _ _))⟩))); try go_wp2_with (first | (go_at_call 30; (with_reducible refine (customsref08_Words.calls k _ _ l0_0 false _ ?side1 ?side2 A4.out).mono ?_); (case side1 => repeat (first | exact (Kd.C_below HR0_0.out HB.out) | (with_reducible refine Kd.C_alloc ?_ _) | (with_reducible refine Kd.C_drewN ?_ _) | (with_reducible refine Kd.C_drew ?_))); (case side2 => exact HC0_0.out); rintro e w' ⟨rfl, ⟨nd, rfl⟩⟩; (try first | exact ⟨rfl, _, World.drewN_drewN _ _ _⟩ | exact ⟨rfl, _, Eq.trans (World.drewN_drewN _ _ _) (congrArg (World.drewN _) (Nat.add_assoc _ _ _))⟩))))
   go_meet
   case rel => exact ⟨_, (true), rls, H', ⟨by first | omega | exact Nat.le_refl _⟩, ⟨blk_ext BK11001.out⟩, ⟨below_extB HB.out⟩⟩
 case rest =>
  clear HC2
  try clear c1
  try clear p2
  try clear c5
  try clear hcz6_0 hcz6_1 hcz6_2 hcz6_3
  try clear hcz7_0 hcz7_1 hcz7_2 hcz7_3
  try clear hfz6_0 hfz6_1 hfz6_2 hfz6_3
  try clear hfz7_0 hfz7_1 hfz7_2 hfz7_3
  obtain ⟨kq, x21_1, rfl, HA, HJ1, BK11001, HB⟩ := hcut
  cases kq with
  | zero => exact absurd HA.out (by simp [customsref08_Good.j0])
  | succ kj1 =>
   have H := HA.out
   clear HA
   simp only [customsref08_Good.j0] at H
   by_cases c8 : x21_1 = true
   ·
    subst c8
    have H1 : (some 1) = some r := by rw [if_pos rfl] at H; exact H
    clear H
    have H := H1
    clear H1
    obtain rfl := Option.some.inj H
    go_wp2
    repeat (go_quiet (fail); try go_wp2)
    go_ret
    exact ⟨by first | rfl | (simp [errW_none, errW_some] <;> rfl) | (simp [*, errW_none, errW_some] <;> rfl), below_extB HB.out⟩
   ·
    replace c8 := Bool.eq_false_iff.mpr c8
    subst c8
    have H1 : (if (l0_1.length : Int) > 8 then (customsref08_Good.j1 kj1 true l0_0 l0_1 l0_2 a0_3) else (customsref08_Good.j1 kj1 (decide ((l0_2.length : Int) > 6)) l0_0 l0_1 l0_2 a0_3)) = some r := by rw [if_neg (show ¬ (false = true) by decide)] at H; exact H
    clear H
    have H := H1
    clear H1
    have HC9 := Aside0.mk H
    clear H
    go_upto_region 3 with (fail)
    repeat (go_quiet (fail); go_upto_region 3 with (fail))
    go_cut [31] (fun v31 wc => ∃ (kq : Nat) (x31_8 : Bool), v31 = .bool x31_8 ∧ Aside0 (customsref08_Good.j1 kq x31_8 l0_0 l0_1 l0_2 a0_3 = some r) ∧ Aside0 (kq ≤ kj1) ∧ Aside0 (wc.heap[gb11001]? = some (.cells #[(.slice A0_0 l0_0.length c0_0), (.slice A0_1 l0_1.length c0_1), (.slice A0_2 l0_2.length c0_2), .bool a0_3] 26 (0, 0))) ∧ Aside0 (Below w.heap.size w wc))
    case first =>
     have H := HC9.out
     clear HC9
     by_cases c10 : (l0_1.length : Int) > 8
     ·
      rw [if_pos c10] at H
      have c10b0 : decide (8 < (l0_1.length : Int)) = true := decide_eq_true c10
      have c10b1 : decide (8 < l0_1.length) = true := decide_eq_true (by omega)
      clear c10
      (first | rw [c10b0] | (simp only [i64_w, i32_w]; rw [c10b0]) | rw [c10b1] | skip)
      have H' := Aside0.mk H
      clear H
      obtain ⟨hcz11_0, hcz11_1, hcz11_2, hcz11_3, hfz11_0, hfz11_1, hfz11_2, hfz11_3⟩ := bk4 BK11001.out
      go_wp2
      repeat (go_quiet (fail); try go_wp2)
      go_meet
      case rel => exact ⟨_, (true), rls, H', ⟨by have := HJ1.out; first | omega | exact Nat.le_refl _⟩, ⟨blk_ext BK11001.out⟩, ⟨below_extB HB.out⟩⟩
     ·
      rw [if_neg c10] at H
      have c10b0 : decide (8 < (l0_1.length : Int)) = false := decide_eq_false c10
      have c10b1 : decide (8 < l0_1.length) = false := decide_eq_false (by omega)
      clear c10
      (first | rw [c10b0] | (simp only [i64_w, i32_w]; rw [c10b0]) | rw [c10b1] | skip)
      have H' := Aside0.mk H
      clear H
      obtain ⟨hcz12_0, hcz12_1, hcz12_2, hcz12_3, hfz12_0, hfz12_1, hfz12_2, hfz12_3⟩ := bk4 BK11001.out
      go_wp2
      repeat (go_quiet (fail); try go_wp2)
      go_meet
      case rel => exact ⟨_, (decide ((l0_2.length : Int) > 6)), rls, H', ⟨by have := HJ1.out; first | omega | exact Nat.le_refl _⟩, ⟨blk_ext BK11001.out⟩, ⟨below_extB HB.out⟩⟩
    case rest =>
     clear HC9
     try clear c1
     try clear p2
     try clear c5
     try clear c8
     try clear c10
     try clear c10b0
     try clear c10b1
     try clear c11
     try clear hcz11_0 hcz11_1 hcz11_2 hcz11_3
     try clear hcz12_0 hcz12_1 hcz12_2 hcz12_3
     try clear hcz6_0 hcz6_1 hcz6_2 hcz6_3
     try clear hcz7_0 hcz7_1 hcz7_2 hcz7_3
     try clear hfz11_0 hfz11_1 hfz11_2 hfz11_3
     try clear hfz12_0 hfz12_1 hfz12_2 hfz12_3
     try clear hfz6_0 hfz6_1 hfz6_2 hfz6_3
     try clear hfz7_0 hfz7_1 hfz7_2 hfz7_3
     try clear p2
     obtain ⟨kq, x31_8, rfl, HA, HJ8, BK11001, HB⟩ := hcut
     cases kq with
     | zero => exact absurd HA.out (by simp [customsref08_Good.j1])
     | succ kj8 =>
      have H := HA.out
      clear HA
      simp only [customsref08_Good.j1] at H
      by_cases c13 : x31_8 = true
      ·
       subst c13
       have H1 : (some 8) = some r := by rw [if_pos rfl] at H; exact H
       clear H
       have H := H1
       clear H1
       obtain rfl := Option.some.inj H
       go_wp2
       repeat (go_quiet (fail); try go_wp2)
       go_ret
       exact ⟨by first | rfl | (simp [errW_none, errW_some] <;> rfl) | (simp [*, errW_none, errW_some] <;> rfl), below_extB HB.out⟩
      ·
       replace c13 := Bool.eq_false_iff.mpr c13
       subst c13
       have H1 : (customsref08_Good.l0 kj8 0 0 false 0 l0_0 l0_1 l0_2 a0_3) = some r := by rw [if_neg (show ¬ (false = true) by decide)] at H; exact H
       clear H
       have H := H1
       clear H1
       have H' := Aside0.mk H
       clear H
       go_wp2
       repeat (go_quiet (fail); try go_wp2)
       go_loopg [6] kj8 (fun kq v6 w' => ∃ (x6_3 : Int), v6 = .int .i64 x6_3 ∧ Aside0 (customsref08_Good.l0 kq 0 0 false x6_3 l0_0 l0_1 l0_2 a0_3 = some r) ∧ Aside0 (kq ≤ kj8) ∧ Aside0 (w'.heap[gb11001]? = some (.cells #[(.slice A0_0 l0_0.length c0_0), (.slice A0_1 l0_1.length c0_1), (.slice A0_2 l0_2.length c0_2), .bool a0_3] 26 (0, 0))) ∧ Aside0 (Below w.heap.size w w'))
       case atStart => exact ⟨(0), rls, H', ⟨Nat.le_refl _⟩, ⟨blk_ext BK11001.out⟩, ⟨below_extB HB.out⟩⟩
       case round =>
        clear H'
        try clear c1
        try clear p2
        try clear c5
        try clear c8
        try clear c10
        try clear c10b0
        try clear c10b1
        try clear c11
        try clear c13
        try clear hcz11_0 hcz11_1 hcz11_2 hcz11_3
        try clear hcz12_0 hcz12_1 hcz12_2 hcz12_3
        try clear hcz6_0 hcz6_1 hcz6_2 hcz6_3
        try clear hcz7_0 hcz7_1 hcz7_2 hcz7_3
        try clear hfz11_0 hfz11_1 hfz11_2 hfz11_3
        try clear hfz12_0 hfz12_1 hfz12_2 hfz12_3
        try clear hfz6_0 hfz6_1 hfz6_2 hfz6_3
        try clear hfz7_0 hfz7_1 hfz7_2 hfz7_3
        try clear p2
        obtain ⟨x6_3, rfl, HA, HK3, BK11001, HB⟩ := hrel
        cases gk with
        | zero => exact absurd HA.out (by simp [customsref08_Good.l0])
        | succ k3 =>
         have H := HA.out
         clear HA
         simp only [customsref08_Good.l0] at H
         by_cases c14 : x6_3 < (l0_1.length : Int)
         ·
          rw [if_pos c14] at H
          have c14b0 : decide (x6_3 < (l0_1.length : Int)) = true := decide_eq_true c14
          clear c14
          replace H := if_some H; obtain ⟨c15, H⟩ := H
          have c15b0 : decide (0 ≤ x6_3) = true := decide_eq_true c15
          clear c15
          replace H := Option.bind_eq_some_iff.mp H
          obtain ⟨t11005, A160, H⟩ := H
          try dsimp only at H
          have A16 := Aside0.mk A160
          clear A160
          by_cases c17 : t11005 = true
          ·
           subst c17
           have H1 : (if x6_3 > 0 then (if 0 ≤ (wrap64 (x6_3 - 1)) then (if (wrap64 (x6_3 - 1)) < (l0_1.length : Int) then (if ((Op.bytesLess (((rd_T36 l0_1 (wrap64 (x6_3 - 1))).f0).toList) (((rd_T36 l0_1 x6_3).f0).toList)) = true) then (customsref08_Good.l0 k3 0 0 false (wrap64 (x6_3 + 1)) l0_0 l0_1 l0_2 a0_3) else (some 1)) else (none)) else (none)) else (customsref08_Good.l0 k3 0 0 false (wrap64 (x6_3 + 1)) l0_0 l0_1 l0_2 a0_3)) = some r := by rw [if_pos rfl] at H; exact H
           clear H
           have H := H1
           clear H1
           by_cases c18 : x6_3 > 0
           ·
            rw [if_pos c18] at H
            have c18b0 : decide (0 < x6_3) = true := decide_eq_true c18
            clear c18
            obtain ⟨ji19, hji19⟩ : ∃ j_ : Int, (wrap64 (x6_3 - 1)) = j_ := ⟨_, rfl⟩
            replace H : (if 0 ≤ (ji19) then (if (ji19) < (l0_1.length : Int) then (if ((Op.bytesLess (((rd_T36 l0_1 (ji19)).f0).toList) (((rd_T36 l0_1 x6_3).f0).toList)) = true) then (customsref08_Good.l0 k3 0 0 false (wrap64 (x6_3 + 1)) l0_0 l0_1 l0_2 a0_3) else (some 1)) else (none)) else (none)) = some r := by first | (rw [hji19] at H; exact H) | (simp only [hji19] at H ⊢; exact H)
            (try rw [hji19] at A16)
            have hji19w : (IntKind.i64.wrap (x6_3 - 1)) = ji19 := (i64_w _).trans hji19
            replace H := if_some H; obtain ⟨c20, H⟩ := H
            have c20b0 : decide (0 ≤ (ji19)) = true := decide_eq_true c20
            clear c20
            replace H := if_some H; obtain ⟨c21, H⟩ := H
            have c21b0 : decide ((ji19) < (l0_1.length : Int)) = true := decide_eq_true c21
            clear c21
            by_cases c22 : ((Op.bytesLess (((rd_T36 l0_1 (ji19)).f0).toList) (((rd_T36 l0_1 x6_3).f0).toList)) = true)
            ·
             rw [if_pos c22] at H
             have c22b0 : (Op.bytesLess (((rd_T36 l0_1 (ji19)).f0).toList) (((rd_T36 l0_1 x6_3).f0).toList)) = true := c22
             clear c22
             have H' := Aside0.mk H
             clear H
             obtain ⟨hcz23_0, hcz23_1, hcz23_2, hcz23_3, hfz23_0, hfz23_1, hfz23_2, hfz23_3⟩ := bk4 BK11001.out
             have p11003 : 0 ≤ (x6_3 : Int) := odt
             have q11003 : x6_3 < (l0_1.length : Int) := odt
             obtain ⟨ad11003, e11003, hx11003_0, hx11003_1⟩ := at_T36 HR0_1.out x6_3 p11003 q11003
             cases e11003
             (try replace hx11003_0 := (HB.out.cell (World.block_lt_of_cell? w _ hx11003_0)).trans hx11003_0)
             (try replace hx11003_1 := (HB.out.cell (World.block_lt_of_cell? w _ hx11003_1)).trans hx11003_1)
             replace p11003 := eq_true p11003
             replace q11003 := eq_true q11003
             go_wp2_with (first | ((with_reducible refine gate_dst (N := 7) rfl ?_); (try (refine gate_guard (by rfl) ?_; dsimp only)); refine box_event ?hg (N := 7) ?hd (cs := #[.string (⟨#[]⟩ : ByteArray), .int .i64 0]) (t := 36) ?hr ?_; (case hd => rfl); (case hg => rfl); (case hr => exact goR); intro gb11004 hg w24 hbox hb; have BK11004 := Aside0.mk (hbox); have GW11004 := gwB hg HB; have GE11004 := GW11004; have NB11001_11004 := nbL hg BK11001; have NB11004_11001 := nbR hg BK11001; have GI11004 := GE_.mk GE11004.out; have NI11001_11004 := NE_.mk NB11001_11004.out; have NI11004_11001 := NE_.mk NB11004_11001.out; replace BK11001 := mvB BK11001 hb; replace HB := mvH HB hb; clear hb hbox hg; have hnb25 := NB11004_11001.out; have hnc25 := NB11001_11004.out; obtain ⟨hcz26_0, hcz26_1, hfz26_0, hfz26_1⟩ := bk2 BK11004.out) | (go_at_call 31; (with_reducible refine (customsref08_Word.calls k3 ((rd_T36 l0_1 x6_3).f0) true _ A16.out).mono ?_); rintro e w' ⟨rfl, ⟨nd, rfl⟩⟩; (try first | exact ⟨rfl, _, World.drewN_drewN _ _ _⟩ | exact ⟨rfl, _, Eq.trans (World.drewN_drewN _ _ _) (congrArg (World.drewN _) (Nat.add_assoc _ _ _))⟩); obtain ⟨hcz27_0, hcz27_1, hcz27_2, hcz27_3, hfz27_0, hfz27_1, hfz27_2, hfz27_3⟩ := bk4 BK11001.out; have p11006 : 0 ≤ ((ji19) : Int) := odt; have q11006 : (ji19) < (l0_1.length : Int) := odt; obtain ⟨ad11006, e11006, hx11006_0, hx11006_1⟩ := at_T36 HR0_1.out (ji19) p11006 q11006; obtain rfl : ad11003 = ad11006 := (by injection e11006); have hn11006_0 : ad11003.block ≠ gb11004 := Nat.ne_of_lt (Nat.lt_of_lt_of_le (by have := World.block_lt_of_cell? _ _ hx11006_0; first | rwa [add_block] at this | exact this) GW11004.out); have hn11006_1 : ad11003.block ≠ gb11004 := Nat.ne_of_lt (Nat.lt_of_lt_of_le (by have := World.block_lt_of_cell? _ _ hx11006_0; first | rwa [add_block] at this | exact this) GW11004.out); replace hx11006_0 := (HB.out.cell (World.block_lt_of_cell? w _ hx11006_0)).trans hx11006_0; replace hx11006_1 := (HB.out.cell (World.block_lt_of_cell? w _ hx11006_1)).trans hx11006_1; replace hx11006_0 := (cell_far (p := ⟨gb11004, 0, none⟩) (by first | (rw [add_block]; exact hn11006_0) | (show (Addr.add _ _).block ≠ _; rw [add_block]; exact hn11006_0) | exact hn11006_0) (.string ((rd_T36 l0_1 x6_3).f0))).trans hx11006_0; replace hx11006_1 := (cell_far (p := ⟨gb11004, 0, none⟩) (by first | (rw [add_block]; exact hn11006_0) | (show (Addr.add _ _).block ≠ _; rw [add_block]; exact hn11006_0) | exact hn11006_0) (.string ((rd_T36 l0_1 x6_3).f0))).trans hx11006_1; replace hx11006_0 := (cell_far (p := ⟨gb11004, 1, none⟩) (by first | (rw [add_block]; exact hn11006_1) | (show (Addr.add _ _).block ≠ _; rw [add_block]; exact hn11006_1) | exact hn11006_1) (.int .i64 ((rd_T36 l0_1 x6_3).f1))).trans hx11006_0; replace hx11006_1 := (cell_far (p := ⟨gb11004, 1, none⟩) (by first | (rw [add_block]; exact hn11006_1) | (show (Addr.add _ _).block ≠ _; rw [add_block]; exact hn11006_1) | exact hn11006_1) (.int .i64 ((rd_T36 l0_1 x6_3).f1))).trans hx11006_1; (try have hy11006_0 := fun (n_ : Nat) => (show ((((w24.drewN n_).setCell ⟨gb11004, 0, none⟩ (.string ((rd_T36 l0_1 x6_3).f0))).setCell ⟨gb11004, 1, none⟩ (.int .i64 ((rd_T36 l0_1 x6_3).f1)))).cell? _ = some _ from hx11006_0)); (try have hy11006_1 := fun (n_ : Nat) => (show ((((w24.drewN n_).setCell ⟨gb11004, 0, none⟩ (.string ((rd_T36 l0_1 x6_3).f0))).setCell ⟨gb11004, 1, none⟩ (.int .i64 ((rd_T36 l0_1 x6_3).f1)))).cell? _ = some _ from hx11006_1)); clear hn11006_0; clear hn11006_1; replace p11006 := eq_true p11006; replace q11006 := eq_true q11006))
             repeat (go_quiet (first | ((with_reducible refine gate_dst (N := 7) rfl ?_); (try (refine gate_guard (by rfl) ?_; dsimp only)); refine box_event ?hg (N := 7) ?hd (cs := #[.string (⟨#[]⟩ : ByteArray), .int .i64 0]) (t := 36) ?hr ?_; (case hd => rfl); (case hg => rfl); (case hr => exact goR); intro gb11004 hg w24 hbox hb; have BK11004 := Aside0.mk (hbox); have GW11004 := gwB hg HB; have GE11004 := GW11004; have NB11001_11004 := nbL hg BK11001; have NB11004_11001 := nbR hg BK11001; have GI11004 := GE_.mk GE11004.out; have NI11001_11004 := NE_.mk NB11001_11004.out; have NI11004_11001 := NE_.mk NB11004_11001.out; replace BK11001 := mvB BK11001 hb; replace HB := mvH HB hb; clear hb hbox hg; have hnb25 := NB11004_11001.out; have hnc25 := NB11001_11004.out; obtain ⟨hcz26_0, hcz26_1, hfz26_0, hfz26_1⟩ := bk2 BK11004.out) | (go_at_call 31; (with_reducible refine (customsref08_Word.calls k3 ((rd_T36 l0_1 x6_3).f0) true _ A16.out).mono ?_); rintro e w' ⟨rfl, ⟨nd, rfl⟩⟩; (try first | exact ⟨rfl, _, World.drewN_drewN _ _ _⟩ | exact ⟨rfl, _, Eq.trans (World.drewN_drewN _ _ _) (congrArg (World.drewN _) (Nat.add_assoc _ _ _))⟩); obtain ⟨hcz27_0, hcz27_1, hcz27_2, hcz27_3, hfz27_0, hfz27_1, hfz27_2, hfz27_3⟩ := bk4 BK11001.out; have p11006 : 0 ≤ ((ji19) : Int) := odt; have q11006 : (ji19) < (l0_1.length : Int) := odt; obtain ⟨ad11006, e11006, hx11006_0, hx11006_1⟩ := at_T36 HR0_1.out (ji19) p11006 q11006; obtain rfl : ad11003 = ad11006 := (by injection e11006); have hn11006_0 : ad11003.block ≠ gb11004 := Nat.ne_of_lt (Nat.lt_of_lt_of_le (by have := World.block_lt_of_cell? _ _ hx11006_0; first | rwa [add_block] at this | exact this) GW11004.out); have hn11006_1 : ad11003.block ≠ gb11004 := Nat.ne_of_lt (Nat.lt_of_lt_of_le (by have := World.block_lt_of_cell? _ _ hx11006_0; first | rwa [add_block] at this | exact this) GW11004.out); replace hx11006_0 := (HB.out.cell (World.block_lt_of_cell? w _ hx11006_0)).trans hx11006_0; replace hx11006_1 := (HB.out.cell (World.block_lt_of_cell? w _ hx11006_1)).trans hx11006_1; replace hx11006_0 := (cell_far (p := ⟨gb11004, 0, none⟩) (by first | (rw [add_block]; exact hn11006_0) | (show (Addr.add _ _).block ≠ _; rw [add_block]; exact hn11006_0) | exact hn11006_0) (.string ((rd_T36 l0_1 x6_3).f0))).trans hx11006_0; replace hx11006_1 := (cell_far (p := ⟨gb11004, 0, none⟩) (by first | (rw [add_block]; exact hn11006_0) | (show (Addr.add _ _).block ≠ _; rw [add_block]; exact hn11006_0) | exact hn11006_0) (.string ((rd_T36 l0_1 x6_3).f0))).trans hx11006_1; replace hx11006_0 := (cell_far (p := ⟨gb11004, 1, none⟩) (by first | (rw [add_block]; exact hn11006_1) | (show (Addr.add _ _).block ≠ _; rw [add_block]; exact hn11006_1) | exact hn11006_1) (.int .i64 ((rd_T36 l0_1 x6_3).f1))).trans hx11006_0; replace hx11006_1 := (cell_far (p := ⟨gb11004, 1, none⟩) (by first | (rw [add_block]; exact hn11006_1) | (show (Addr.add _ _).block ≠ _; rw [add_block]; exact hn11006_1) | exact hn11006_1) (.int .i64 ((rd_T36 l0_1 x6_3).f1))).trans hx11006_1; (try have hy11006_0 := fun (n_ : Nat) => (show ((((w24.drewN n_).setCell ⟨gb11004, 0, none⟩ (.string ((rd_T36 l0_1 x6_3).f0))).setCell ⟨gb11004, 1, none⟩ (.int .i64 ((rd_T36 l0_1 x6_3).f1)))).cell? _ = some _ from hx11006_0)); (try have hy11006_1 := fun (n_ : Nat) => (show ((((w24.drewN n_).setCell ⟨gb11004, 0, none⟩ (.string ((rd_T36 l0_1 x6_3).f0))).setCell ⟨gb11004, 1, none⟩ (.int .i64 ((rd_T36 l0_1 x6_3).f1)))).cell? _ = some _ from hx11006_1)); clear hn11006_0; clear hn11006_1; replace p11006 := eq_true p11006; replace q11006 := eq_true q11006)); try go_wp2_with (first | ((with_reducible refine gate_dst (N := 7) rfl ?_); (try (refine gate_guard (by rfl) ?_; dsimp only)); refine box_event ?hg (N := 7) ?hd (cs := #[.string (⟨#[]⟩ : ByteArray), .int .i64 0]) (t := 36) ?hr ?_; (case hd => rfl); (case hg => rfl); (case hr => exact goR); intro gb11004 hg w24 hbox hb; have BK11004 := Aside0.mk (hbox); have GW11004 := gwB hg HB; have GE11004 := GW11004; have NB11001_11004 := nbL hg BK11001; have NB11004_11001 := nbR hg BK11001; have GI11004 := GE_.mk GE11004.out; have NI11001_11004 := NE_.mk NB11001_11004.out; have NI11004_11001 := NE_.mk NB11004_11001.out; replace BK11001 := mvB BK11001 hb; replace HB := mvH HB hb; clear hb hbox hg; have hnb25 := NB11004_11001.out; have hnc25 := NB11001_11004.out; obtain ⟨hcz26_0, hcz26_1, hfz26_0, hfz26_1⟩ := bk2 BK11004.out) | (go_at_call 31; (with_reducible refine (customsref08_Word.calls k3 ((rd_T36 l0_1 x6_3).f0) true _ A16.out).mono ?_); rintro e w' ⟨rfl, ⟨nd, rfl⟩⟩; (try first | exact ⟨rfl, _, World.drewN_drewN _ _ _⟩ | exact ⟨rfl, _, Eq.trans (World.drewN_drewN _ _ _) (congrArg (World.drewN _) (Nat.add_assoc _ _ _))⟩); obtain ⟨hcz27_0, hcz27_1, hcz27_2, hcz27_3, hfz27_0, hfz27_1, hfz27_2, hfz27_3⟩ := bk4 BK11001.out; have p11006 : 0 ≤ ((ji19) : Int) := odt; have q11006 : (ji19) < (l0_1.length : Int) := odt; obtain ⟨ad11006, e11006, hx11006_0, hx11006_1⟩ := at_T36 HR0_1.out (ji19) p11006 q11006; obtain rfl : ad11003 = ad11006 := (by injection e11006); have hn11006_0 : ad11003.block ≠ gb11004 := Nat.ne_of_lt (Nat.lt_of_lt_of_le (by have := World.block_lt_of_cell? _ _ hx11006_0; first | rwa [add_block] at this | exact this) GW11004.out); have hn11006_1 : ad11003.block ≠ gb11004 := Nat.ne_of_lt (Nat.lt_of_lt_of_le (by have := World.block_lt_of_cell? _ _ hx11006_0; first | rwa [add_block] at this | exact this) GW11004.out); replace hx11006_0 := (HB.out.cell (World.block_lt_of_cell? w _ hx11006_0)).trans hx11006_0; replace hx11006_1 := (HB.out.cell (World.block_lt_of_cell? w _ hx11006_1)).trans hx11006_1; replace hx11006_0 := (cell_far (p := ⟨gb11004, 0, none⟩) (by first | (rw [add_block]; exact hn11006_0) | (show (Addr.add _ _).block ≠ _; rw [add_block]; exact hn11006_0) | exact hn11006_0) (.string ((rd_T36 l0_1 x6_3).f0))).trans hx11006_0; replace hx11006_1 := (cell_far (p := ⟨gb11004, 0, none⟩) (by first | (rw [add_block]; exact hn11006_0) | (show (Addr.add _ _).block ≠ _; rw [add_block]; exact hn11006_0) | exact hn11006_0) (.string ((rd_T36 l0_1 x6_3).f0))).trans hx11006_1; replace hx11006_0 := (cell_far (p := ⟨gb11004, 1, none⟩) (by first | (rw [add_block]; exact hn11006_1) | (show (Addr.add _ _).block ≠ _; rw [add_block]; exact hn11006_1) | exact hn11006_1) (.int .i64 ((rd_T36 l0_1 x6_3).f1))).trans hx11006_0; replace hx11006_1 := (cell_far (p := ⟨gb11004, 1, none⟩) (by first | (rw [add_block]; exact hn11006_1) | (show (Addr.add _ _).block ≠ _; rw [add_block]; exact hn11006_1) | exact hn11006_1) (.int .i64 ((rd_T36 l0_1 x6_3).f1))).trans hx11006_1; (try have hy11006_0 := fun (n_ : Nat) => (show ((((w24.drewN n_).setCell ⟨gb11004, 0, none⟩ (.string ((rd_T36 l0_1 x6_3).f0))).setCell ⟨gb11004, 1, none⟩ (.int .i64 ((rd_T36 l0_1 x6_3).f1)))).cell? _ = some _ from hx11006_0)); (try have hy11006_1 := fun (n_ : Nat) => (show ((((w24.drewN n_).setCell ⟨gb11004, 0, none⟩ (.string ((rd_T36 l0_1 x6_3).f0))).setCell ⟨gb11004, 1, none⟩ (.int .i64 ((rd_T36 l0_1 x6_3).f1)))).cell? _ = some _ from hx11006_1)); clear hn11006_0; clear hn11006_1; replace p11006 := eq_true p11006; replace q11006 := eq_true q11006)))
             go_roundg k3
             case measure => have := HJ1.out; have := HJ8.out; have := HK3.out; omega
             case rel => exact ⟨(wrap64 (x6_3 + 1)), rls, H', ⟨by have := HJ1.out; have := HJ8.out; have := HK3.out; omega⟩, ⟨blk_extC BK11001.out⟩, ⟨below_extB HB.out⟩⟩
            ·
             rw [if_neg c22] at H
             have c22b0 : (Op.bytesLess (((rd_T36 l0_1 (ji19)).f0).toList) (((rd_T36 l0_1 x6_3).f0).toList)) = false := by simpa using c22
             clear c22
             obtain rfl := Option.some.inj H
             obtain ⟨hcz28_0, hcz28_1, hcz28_2, hcz28_3, hfz28_0, hfz28_1, hfz28_2, hfz28_3⟩ := bk4 BK11001.out
             have p11003 : 0 ≤ (x6_3 : Int) := odt
             have q11003 : x6_3 < (l0_1.length : Int) := odt
             obtain ⟨ad11003, e11003, hx11003_0, hx11003_1⟩ := at_T36 HR0_1.out x6_3 p11003 q11003
             cases e11003
             (try replace hx11003_0 := (HB.out.cell (World.block_lt_of_cell? w _ hx11003_0)).trans hx11003_0)
             (try replace hx11003_1 := (HB.out.cell (World.block_lt_of_cell? w _ hx11003_1)).trans hx11003_1)
             replace p11003 := eq_true p11003
             replace q11003 := eq_true q11003
             go_wp2_with (first | ((with_reducible refine gate_dst (N := 7) rfl ?_); (try (refine gate_guard (by rfl) ?_; dsimp only)); refine box_event ?hg (N := 7) ?hd (cs := #[.string (⟨#[]⟩ : ByteArray), .int .i64 0]) (t := 36) ?hr ?_; (case hd => rfl); (case hg => rfl); (case hr => exact goR); intro gb11004 hg w29 hbox hb; have BK11004 := Aside0.mk (hbox); have GW11004 := gwB hg HB; have GE11004 := GW11004; have NB11001_11004 := nbL hg BK11001; have NB11004_11001 := nbR hg BK11001; have GI11004 := GE_.mk GE11004.out; have NI11001_11004 := NE_.mk NB11001_11004.out; have NI11004_11001 := NE_.mk NB11004_11001.out; replace BK11001 := mvB BK11001 hb; replace HB := mvH HB hb; clear hb hbox hg; have hnb30 := NB11004_11001.out; have hnc30 := NB11001_11004.out; obtain ⟨hcz31_0, hcz31_1, hfz31_0, hfz31_1⟩ := bk2 BK11004.out) | (go_at_call 31; (with_reducible refine (customsref08_Word.calls k3 ((rd_T36 l0_1 x6_3).f0) true _ A16.out).mono ?_); rintro e w' ⟨rfl, ⟨nd, rfl⟩⟩; (try first | exact ⟨rfl, _, World.drewN_drewN _ _ _⟩ | exact ⟨rfl, _, Eq.trans (World.drewN_drewN _ _ _) (congrArg (World.drewN _) (Nat.add_assoc _ _ _))⟩); obtain ⟨hcz32_0, hcz32_1, hcz32_2, hcz32_3, hfz32_0, hfz32_1, hfz32_2, hfz32_3⟩ := bk4 BK11001.out; have p11006 : 0 ≤ ((ji19) : Int) := odt; have q11006 : (ji19) < (l0_1.length : Int) := odt; obtain ⟨ad11006, e11006, hx11006_0, hx11006_1⟩ := at_T36 HR0_1.out (ji19) p11006 q11006; obtain rfl : ad11003 = ad11006 := (by injection e11006); have hn11006_0 : ad11003.block ≠ gb11004 := Nat.ne_of_lt (Nat.lt_of_lt_of_le (by have := World.block_lt_of_cell? _ _ hx11006_0; first | rwa [add_block] at this | exact this) GW11004.out); have hn11006_1 : ad11003.block ≠ gb11004 := Nat.ne_of_lt (Nat.lt_of_lt_of_le (by have := World.block_lt_of_cell? _ _ hx11006_0; first | rwa [add_block] at this | exact this) GW11004.out); replace hx11006_0 := (HB.out.cell (World.block_lt_of_cell? w _ hx11006_0)).trans hx11006_0; replace hx11006_1 := (HB.out.cell (World.block_lt_of_cell? w _ hx11006_1)).trans hx11006_1; replace hx11006_0 := (cell_far (p := ⟨gb11004, 0, none⟩) (by first | (rw [add_block]; exact hn11006_0) | (show (Addr.add _ _).block ≠ _; rw [add_block]; exact hn11006_0) | exact hn11006_0) (.string ((rd_T36 l0_1 x6_3).f0))).trans hx11006_0; replace hx11006_1 := (cell_far (p := ⟨gb11004, 0, none⟩) (by first | (rw [add_block]; exact hn11006_0) | (show (Addr.add _ _).block ≠ _; rw [add_block]; exact hn11006_0) | exact hn11006_0) (.string ((rd_T36 l0_1 x6_3).f0))).trans hx11006_1; replace hx11006_0 := (cell_far (p := ⟨gb11004, 1, none⟩) (by first | (rw [add_block]; exact hn11006_1) | (show (Addr.add _ _).block ≠ _; rw [add_block]; exact hn11006_1) | exact hn11006_1) (.int .i64 ((rd_T36 l0_1 x6_3).f1))).trans hx11006_0; replace hx11006_1 := (cell_far (p := ⟨gb11004, 1, none⟩) (by first | (rw [add_block]; exact hn11006_1) | (show (Addr.add _ _).block ≠ _; rw [add_block]; exact hn11006_1) | exact hn11006_1) (.int .i64 ((rd_T36 l0_1 x6_3).f1))).trans hx11006_1; (try have hy11006_0 := fun (n_ : Nat) => (show ((((w29.drewN n_).setCell ⟨gb11004, 0, none⟩ (.string ((rd_T36 l0_1 x6_3).f0))).setCell ⟨gb11004, 1, none⟩ (.int .i64 ((rd_T36 l0_1 x6_3).f1)))).cell? _ = some _ from hx11006_0)); (try have hy11006_1 := fun (n_ : Nat) => (show ((((w29.drewN n_).setCell ⟨gb11004, 0, none⟩ (.string ((rd_T36 l0_1 x6_3).f0))).setCell ⟨gb11004, 1, none⟩ (.int .i64 ((rd_T36 l0_1 x6_3).f1)))).cell? _ = some _ from hx11006_1)); clear hn11006_0; clear hn11006_1; replace p11006 := eq_true p11006; replace q11006 := eq_true q11006))
             repeat (go_quiet (first | ((with_reducible refine gate_dst (N := 7) rfl ?_); (try (refine gate_guard (by rfl) ?_; dsimp only)); refine box_event ?hg (N := 7) ?hd (cs := #[.string (⟨#[]⟩ : ByteArray), .int .i64 0]) (t := 36) ?hr ?_; (case hd => rfl); (case hg => rfl); (case hr => exact goR); intro gb11004 hg w29 hbox hb; have BK11004 := Aside0.mk (hbox); have GW11004 := gwB hg HB; have GE11004 := GW11004; have NB11001_11004 := nbL hg BK11001; have NB11004_11001 := nbR hg BK11001; have GI11004 := GE_.mk GE11004.out; have NI11001_11004 := NE_.mk NB11001_11004.out; have NI11004_11001 := NE_.mk NB11004_11001.out; replace BK11001 := mvB BK11001 hb; replace HB := mvH HB hb; clear hb hbox hg; have hnb30 := NB11004_11001.out; have hnc30 := NB11001_11004.out; obtain ⟨hcz31_0, hcz31_1, hfz31_0, hfz31_1⟩ := bk2 BK11004.out) | (go_at_call 31; (with_reducible refine (customsref08_Word.calls k3 ((rd_T36 l0_1 x6_3).f0) true _ A16.out).mono ?_); rintro e w' ⟨rfl, ⟨nd, rfl⟩⟩; (try first | exact ⟨rfl, _, World.drewN_drewN _ _ _⟩ | exact ⟨rfl, _, Eq.trans (World.drewN_drewN _ _ _) (congrArg (World.drewN _) (Nat.add_assoc _ _ _))⟩); obtain ⟨hcz32_0, hcz32_1, hcz32_2, hcz32_3, hfz32_0, hfz32_1, hfz32_2, hfz32_3⟩ := bk4 BK11001.out; have p11006 : 0 ≤ ((ji19) : Int) := odt; have q11006 : (ji19) < (l0_1.length : Int) := odt; obtain ⟨ad11006, e11006, hx11006_0, hx11006_1⟩ := at_T36 HR0_1.out (ji19) p11006 q11006; obtain rfl : ad11003 = ad11006 := (by injection e11006); have hn11006_0 : ad11003.block ≠ gb11004 := Nat.ne_of_lt (Nat.lt_of_lt_of_le (by have := World.block_lt_of_cell? _ _ hx11006_0; first | rwa [add_block] at this | exact this) GW11004.out); have hn11006_1 : ad11003.block ≠ gb11004 := Nat.ne_of_lt (Nat.lt_of_lt_of_le (by have := World.block_lt_of_cell? _ _ hx11006_0; first | rwa [add_block] at this | exact this) GW11004.out); replace hx11006_0 := (HB.out.cell (World.block_lt_of_cell? w _ hx11006_0)).trans hx11006_0; replace hx11006_1 := (HB.out.cell (World.block_lt_of_cell? w _ hx11006_1)).trans hx11006_1; replace hx11006_0 := (cell_far (p := ⟨gb11004, 0, none⟩) (by first | (rw [add_block]; exact hn11006_0) | (show (Addr.add _ _).block ≠ _; rw [add_block]; exact hn11006_0) | exact hn11006_0) (.string ((rd_T36 l0_1 x6_3).f0))).trans hx11006_0; replace hx11006_1 := (cell_far (p := ⟨gb11004, 0, none⟩) (by first | (rw [add_block]; exact hn11006_0) | (show (Addr.add _ _).block ≠ _; rw [add_block]; exact hn11006_0) | exact hn11006_0) (.string ((rd_T36 l0_1 x6_3).f0))).trans hx11006_1; replace hx11006_0 := (cell_far (p := ⟨gb11004, 1, none⟩) (by first | (rw [add_block]; exact hn11006_1) | (show (Addr.add _ _).block ≠ _; rw [add_block]; exact hn11006_1) | exact hn11006_1) (.int .i64 ((rd_T36 l0_1 x6_3).f1))).trans hx11006_0; replace hx11006_1 := (cell_far (p := ⟨gb11004, 1, none⟩) (by first | (rw [add_block]; exact hn11006_1) | (show (Addr.add _ _).block ≠ _; rw [add_block]; exact hn11006_1) | exact hn11006_1) (.int .i64 ((rd_T36 l0_1 x6_3).f1))).trans hx11006_1; (try have hy11006_0 := fun (n_ : Nat) => (show ((((w29.drewN n_).setCell ⟨gb11004, 0, none⟩ (.string ((rd_T36 l0_1 x6_3).f0))).setCell ⟨gb11004, 1, none⟩ (.int .i64 ((rd_T36 l0_1 x6_3).f1)))).cell? _ = some _ from hx11006_0)); (try have hy11006_1 := fun (n_ : Nat) => (show ((((w29.drewN n_).setCell ⟨gb11004, 0, none⟩ (.string ((rd_T36 l0_1 x6_3).f0))).setCell ⟨gb11004, 1, none⟩ (.int .i64 ((rd_T36 l0_1 x6_3).f1)))).cell? _ = some _ from hx11006_1)); clear hn11006_0; clear hn11006_1; replace p11006 := eq_true p11006; replace q11006 := eq_true q11006)); try go_wp2_with (first | ((with_reducible refine gate_dst (N := 7) rfl ?_); (try (refine gate_guard (by rfl) ?_; dsimp only)); refine box_event ?hg (N := 7) ?hd (cs := #[.string (⟨#[]⟩ : ByteArray), .int .i64 0]) (t := 36) ?hr ?_; (case hd => rfl); (case hg => rfl); (case hr => exact goR); intro gb11004 hg w29 hbox hb; have BK11004 := Aside0.mk (hbox); have GW11004 := gwB hg HB; have GE11004 := GW11004; have NB11001_11004 := nbL hg BK11001; have NB11004_11001 := nbR hg BK11001; have GI11004 := GE_.mk GE11004.out; have NI11001_11004 := NE_.mk NB11001_11004.out; have NI11004_11001 := NE_.mk NB11004_11001.out; replace BK11001 := mvB BK11001 hb; replace HB := mvH HB hb; clear hb hbox hg; have hnb30 := NB11004_11001.out; have hnc30 := NB11001_11004.out; obtain ⟨hcz31_0, hcz31_1, hfz31_0, hfz31_1⟩ := bk2 BK11004.out) | (go_at_call 31; (with_reducible refine (customsref08_Word.calls k3 ((rd_T36 l0_1 x6_3).f0) true _ A16.out).mono ?_); rintro e w' ⟨rfl, ⟨nd, rfl⟩⟩; (try first | exact ⟨rfl, _, World.drewN_drewN _ _ _⟩ | exact ⟨rfl, _, Eq.trans (World.drewN_drewN _ _ _) (congrArg (World.drewN _) (Nat.add_assoc _ _ _))⟩); obtain ⟨hcz32_0, hcz32_1, hcz32_2, hcz32_3, hfz32_0, hfz32_1, hfz32_2, hfz32_3⟩ := bk4 BK11001.out; have p11006 : 0 ≤ ((ji19) : Int) := odt; have q11006 : (ji19) < (l0_1.length : Int) := odt; obtain ⟨ad11006, e11006, hx11006_0, hx11006_1⟩ := at_T36 HR0_1.out (ji19) p11006 q11006; obtain rfl : ad11003 = ad11006 := (by injection e11006); have hn11006_0 : ad11003.block ≠ gb11004 := Nat.ne_of_lt (Nat.lt_of_lt_of_le (by have := World.block_lt_of_cell? _ _ hx11006_0; first | rwa [add_block] at this | exact this) GW11004.out); have hn11006_1 : ad11003.block ≠ gb11004 := Nat.ne_of_lt (Nat.lt_of_lt_of_le (by have := World.block_lt_of_cell? _ _ hx11006_0; first | rwa [add_block] at this | exact this) GW11004.out); replace hx11006_0 := (HB.out.cell (World.block_lt_of_cell? w _ hx11006_0)).trans hx11006_0; replace hx11006_1 := (HB.out.cell (World.block_lt_of_cell? w _ hx11006_1)).trans hx11006_1; replace hx11006_0 := (cell_far (p := ⟨gb11004, 0, none⟩) (by first | (rw [add_block]; exact hn11006_0) | (show (Addr.add _ _).block ≠ _; rw [add_block]; exact hn11006_0) | exact hn11006_0) (.string ((rd_T36 l0_1 x6_3).f0))).trans hx11006_0; replace hx11006_1 := (cell_far (p := ⟨gb11004, 0, none⟩) (by first | (rw [add_block]; exact hn11006_0) | (show (Addr.add _ _).block ≠ _; rw [add_block]; exact hn11006_0) | exact hn11006_0) (.string ((rd_T36 l0_1 x6_3).f0))).trans hx11006_1; replace hx11006_0 := (cell_far (p := ⟨gb11004, 1, none⟩) (by first | (rw [add_block]; exact hn11006_1) | (show (Addr.add _ _).block ≠ _; rw [add_block]; exact hn11006_1) | exact hn11006_1) (.int .i64 ((rd_T36 l0_1 x6_3).f1))).trans hx11006_0; replace hx11006_1 := (cell_far (p := ⟨gb11004, 1, none⟩) (by first | (rw [add_block]; exact hn11006_1) | (show (Addr.add _ _).block ≠ _; rw [add_block]; exact hn11006_1) | exact hn11006_1) (.int .i64 ((rd_T36 l0_1 x6_3).f1))).trans hx11006_1; (try have hy11006_0 := fun (n_ : Nat) => (show ((((w29.drewN n_).setCell ⟨gb11004, 0, none⟩ (.string ((rd_T36 l0_1 x6_3).f0))).setCell ⟨gb11004, 1, none⟩ (.int .i64 ((rd_T36 l0_1 x6_3).f1)))).cell? _ = some _ from hx11006_0)); (try have hy11006_1 := fun (n_ : Nat) => (show ((((w29.drewN n_).setCell ⟨gb11004, 0, none⟩ (.string ((rd_T36 l0_1 x6_3).f0))).setCell ⟨gb11004, 1, none⟩ (.int .i64 ((rd_T36 l0_1 x6_3).f1)))).cell? _ = some _ from hx11006_1)); clear hn11006_0; clear hn11006_1; replace p11006 := eq_true p11006; replace q11006 := eq_true q11006)))
             go_ret
             exact ⟨by first | rfl | (simp [errW_none, errW_some] <;> rfl) | (simp only [← hji19]; first | rfl | (simp [errW_none, errW_some] <;> rfl)) | (simp [*, errW_none, errW_some] <;> rfl), below_extB HB.out⟩
           ·
            rw [if_neg c18] at H
            have c18b0 : decide (0 < x6_3) = false := decide_eq_false c18
            clear c18
            have H' := Aside0.mk H
            clear H
            obtain ⟨hcz33_0, hcz33_1, hcz33_2, hcz33_3, hfz33_0, hfz33_1, hfz33_2, hfz33_3⟩ := bk4 BK11001.out
            have p11003 : 0 ≤ (x6_3 : Int) := odt
            have q11003 : x6_3 < (l0_1.length : Int) := odt
            obtain ⟨ad11003, e11003, hx11003_0, hx11003_1⟩ := at_T36 HR0_1.out x6_3 p11003 q11003
            cases e11003
            (try replace hx11003_0 := (HB.out.cell (World.block_lt_of_cell? w _ hx11003_0)).trans hx11003_0)
            (try replace hx11003_1 := (HB.out.cell (World.block_lt_of_cell? w _ hx11003_1)).trans hx11003_1)
            replace p11003 := eq_true p11003
            replace q11003 := eq_true q11003
            go_wp2_with (first | ((with_reducible refine gate_dst (N := 7) rfl ?_); (try (refine gate_guard (by rfl) ?_; dsimp only)); refine box_event ?hg (N := 7) ?hd (cs := #[.string (⟨#[]⟩ : ByteArray), .int .i64 0]) (t := 36) ?hr ?_; (case hd => rfl); (case hg => rfl); (case hr => exact goR); intro gb11004 hg w34 hbox hb; have BK11004 := Aside0.mk (hbox); have GW11004 := gwB hg HB; have GE11004 := GW11004; have NB11001_11004 := nbL hg BK11001; have NB11004_11001 := nbR hg BK11001; have GI11004 := GE_.mk GE11004.out; have NI11001_11004 := NE_.mk NB11001_11004.out; have NI11004_11001 := NE_.mk NB11004_11001.out; replace BK11001 := mvB BK11001 hb; replace HB := mvH HB hb; clear hb hbox hg; have hnb35 := NB11004_11001.out; have hnc35 := NB11001_11004.out; obtain ⟨hcz36_0, hcz36_1, hfz36_0, hfz36_1⟩ := bk2 BK11004.out) | (go_at_call 31; (with_reducible refine (customsref08_Word.calls k3 ((rd_T36 l0_1 x6_3).f0) true _ A16.out).mono ?_); rintro e w' ⟨rfl, ⟨nd, rfl⟩⟩; (try first | exact ⟨rfl, _, World.drewN_drewN _ _ _⟩ | exact ⟨rfl, _, Eq.trans (World.drewN_drewN _ _ _) (congrArg (World.drewN _) (Nat.add_assoc _ _ _))⟩)))
            repeat (go_quiet (first | ((with_reducible refine gate_dst (N := 7) rfl ?_); (try (refine gate_guard (by rfl) ?_; dsimp only)); refine box_event ?hg (N := 7) ?hd (cs := #[.string (⟨#[]⟩ : ByteArray), .int .i64 0]) (t := 36) ?hr ?_; (case hd => rfl); (case hg => rfl); (case hr => exact goR); intro gb11004 hg w34 hbox hb; have BK11004 := Aside0.mk (hbox); have GW11004 := gwB hg HB; have GE11004 := GW11004; have NB11001_11004 := nbL hg BK11001; have NB11004_11001 := nbR hg BK11001; have GI11004 := GE_.mk GE11004.out; have NI11001_11004 := NE_.mk NB11001_11004.out; have NI11004_11001 := NE_.mk NB11004_11001.out; replace BK11001 := mvB BK11001 hb; replace HB := mvH HB hb; clear hb hbox hg; have hnb35 := NB11004_11001.out; have hnc35 := NB11001_11004.out; obtain ⟨hcz36_0, hcz36_1, hfz36_0, hfz36_1⟩ := bk2 BK11004.out) | (go_at_call 31; (with_reducible refine (customsref08_Word.calls k3 ((rd_T36 l0_1 x6_3).f0) true _ A16.out).mono ?_); rintro e w' ⟨rfl, ⟨nd, rfl⟩⟩; (try first | exact ⟨rfl, _, World.drewN_drewN _ _ _⟩ | exact ⟨rfl, _, Eq.trans (World.drewN_drewN _ _ _) (congrArg (World.drewN _) (Nat.add_assoc _ _ _))⟩))); try go_wp2_with (first | ((with_reducible refine gate_dst (N := 7) rfl ?_); (try (refine gate_guard (by rfl) ?_; dsimp only)); refine box_event ?hg (N := 7) ?hd (cs := #[.string (⟨#[]⟩ : ByteArray), .int .i64 0]) (t := 36) ?hr ?_; (case hd => rfl); (case hg => rfl); (case hr => exact goR); intro gb11004 hg w34 hbox hb; have BK11004 := Aside0.mk (hbox); have GW11004 := gwB hg HB; have GE11004 := GW11004; have NB11001_11004 := nbL hg BK11001; have NB11004_11001 := nbR hg BK11001; have GI11004 := GE_.mk GE11004.out; have NI11001_11004 := NE_.mk NB11001_11004.out; have NI11004_11001 := NE_.mk NB11004_11001.out; replace BK11001 := mvB BK11001 hb; replace HB := mvH HB hb; clear hb hbox hg; have hnb35 := NB11004_11001.out; have hnc35 := NB11001_11004.out; obtain ⟨hcz36_0, hcz36_1, hfz36_0, hfz36_1⟩ := bk2 BK11004.out) | (go_at_call 31; (with_reducible refine (customsref08_Word.calls k3 ((rd_T36 l0_1 x6_3).f0) true _ A16.out).mono ?_); rintro e w' ⟨rfl, ⟨nd, rfl⟩⟩; (try first | exact ⟨rfl, _, World.drewN_drewN _ _ _⟩ | exact ⟨rfl, _, Eq.trans (World.drewN_drewN _ _ _) (congrArg (World.drewN _) (Nat.add_assoc _ _ _))⟩))))
            go_roundg k3
            case measure => have := HJ1.out; have := HJ8.out; have := HK3.out; omega
            case rel => exact ⟨(wrap64 (x6_3 + 1)), rls, H', ⟨by have := HJ1.out; have := HJ8.out; have := HK3.out; omega⟩, ⟨blk_extC BK11001.out⟩, ⟨below_extB HB.out⟩⟩
          ·
           replace c17 := Bool.eq_false_iff.mpr c17
           subst c17
           have H1 : (some 1) = some r := by rw [if_neg (show ¬ (false = true) by decide)] at H; exact H
           clear H
           have H := H1
           clear H1
           obtain rfl := Option.some.inj H
           obtain ⟨hcz37_0, hcz37_1, hcz37_2, hcz37_3, hfz37_0, hfz37_1, hfz37_2, hfz37_3⟩ := bk4 BK11001.out
           have p11003 : 0 ≤ (x6_3 : Int) := odt
           have q11003 : x6_3 < (l0_1.length : Int) := odt
           obtain ⟨ad11003, e11003, hx11003_0, hx11003_1⟩ := at_T36 HR0_1.out x6_3 p11003 q11003
           cases e11003
           (try replace hx11003_0 := (HB.out.cell (World.block_lt_of_cell? w _ hx11003_0)).trans hx11003_0)
           (try replace hx11003_1 := (HB.out.cell (World.block_lt_of_cell? w _ hx11003_1)).trans hx11003_1)
           replace p11003 := eq_true p11003
           replace q11003 := eq_true q11003
           go_wp2_with (first | ((with_reducible refine gate_dst (N := 7) rfl ?_); (try (refine gate_guard (by rfl) ?_; dsimp only)); refine box_event ?hg (N := 7) ?hd (cs := #[.string (⟨#[]⟩ : ByteArray), .int .i64 0]) (t := 36) ?hr ?_; (case hd => rfl); (case hg => rfl); (case hr => exact goR); intro gb11004 hg w38 hbox hb; have BK11004 := Aside0.mk (hbox); have GW11004 := gwB hg HB; have GE11004 := GW11004; have NB11001_11004 := nbL hg BK11001; have NB11004_11001 := nbR hg BK11001; have GI11004 := GE_.mk GE11004.out; have NI11001_11004 := NE_.mk NB11001_11004.out; have NI11004_11001 := NE_.mk NB11004_11001.out; replace BK11001 := mvB BK11001 hb; replace HB := mvH HB hb; clear hb hbox hg; have hnb39 := NB11004_11001.out; have hnc39 := NB11001_11004.out; obtain ⟨hcz40_0, hcz40_1, hfz40_0, hfz40_1⟩ := bk2 BK11004.out) | (go_at_call 31; (with_reducible refine (customsref08_Word.calls k3 ((rd_T36 l0_1 x6_3).f0) false _ A16.out).mono ?_); rintro e w' ⟨rfl, ⟨nd, rfl⟩⟩; (try first | exact ⟨rfl, _, World.drewN_drewN _ _ _⟩ | exact ⟨rfl, _, Eq.trans (World.drewN_drewN _ _ _) (congrArg (World.drewN _) (Nat.add_assoc _ _ _))⟩)))
           repeat (go_quiet (first | ((with_reducible refine gate_dst (N := 7) rfl ?_); (try (refine gate_guard (by rfl) ?_; dsimp only)); refine box_event ?hg (N := 7) ?hd (cs := #[.string (⟨#[]⟩ : ByteArray), .int .i64 0]) (t := 36) ?hr ?_; (case hd => rfl); (case hg => rfl); (case hr => exact goR); intro gb11004 hg w38 hbox hb; have BK11004 := Aside0.mk (hbox); have GW11004 := gwB hg HB; have GE11004 := GW11004; have NB11001_11004 := nbL hg BK11001; have NB11004_11001 := nbR hg BK11001; have GI11004 := GE_.mk GE11004.out; have NI11001_11004 := NE_.mk NB11001_11004.out; have NI11004_11001 := NE_.mk NB11004_11001.out; replace BK11001 := mvB BK11001 hb; replace HB := mvH HB hb; clear hb hbox hg; have hnb39 := NB11004_11001.out; have hnc39 := NB11001_11004.out; obtain ⟨hcz40_0, hcz40_1, hfz40_0, hfz40_1⟩ := bk2 BK11004.out) | (go_at_call 31; (with_reducible refine (customsref08_Word.calls k3 ((rd_T36 l0_1 x6_3).f0) false _ A16.out).mono ?_); rintro e w' ⟨rfl, ⟨nd, rfl⟩⟩; (try first | exact ⟨rfl, _, World.drewN_drewN _ _ _⟩ | exact ⟨rfl, _, Eq.trans (World.drewN_drewN _ _ _) (congrArg (World.drewN _) (Nat.add_assoc _ _ _))⟩))); try go_wp2_with (first | ((with_reducible refine gate_dst (N := 7) rfl ?_); (try (refine gate_guard (by rfl) ?_; dsimp only)); refine box_event ?hg (N := 7) ?hd (cs := #[.string (⟨#[]⟩ : ByteArray), .int .i64 0]) (t := 36) ?hr ?_; (case hd => rfl); (case hg => rfl); (case hr => exact goR); intro gb11004 hg w38 hbox hb; have BK11004 := Aside0.mk (hbox); have GW11004 := gwB hg HB; have GE11004 := GW11004; have NB11001_11004 := nbL hg BK11001; have NB11004_11001 := nbR hg BK11001; have GI11004 := GE_.mk GE11004.out; have NI11001_11004 := NE_.mk NB11001_11004.out; have NI11004_11001 := NE_.mk NB11004_11001.out; replace BK11001 := mvB BK11001 hb; replace HB := mvH HB hb; clear hb hbox hg; have hnb39 := NB11004_11001.out; have hnc39 := NB11001_11004.out; obtain ⟨hcz40_0, hcz40_1, hfz40_0, hfz40_1⟩ := bk2 BK11004.out) | (go_at_call 31; (with_reducible refine (customsref08_Word.calls k3 ((rd_T36 l0_1 x6_3).f0) false _ A16.out).mono ?_); rintro e w' ⟨rfl, ⟨nd, rfl⟩⟩; (try first | exact ⟨rfl, _, World.drewN_drewN _ _ _⟩ | exact ⟨rfl, _, Eq.trans (World.drewN_drewN _ _ _) (congrArg (World.drewN _) (Nat.add_assoc _ _ _))⟩))))
           go_ret
           exact ⟨by first | rfl | (simp [errW_none, errW_some] <;> rfl) | (simp [*, errW_none, errW_some] <;> rfl), below_extB HB.out⟩
         ·
          rw [if_neg c14] at H
          have c14b0 : decide (x6_3 < (l0_1.length : Int)) = false := decide_eq_false c14
          clear c14
          have H' := Aside0.mk H
          clear H
          obtain ⟨hcz41_0, hcz41_1, hcz41_2, hcz41_3, hfz41_0, hfz41_1, hfz41_2, hfz41_3⟩ := bk4 BK11001.out
          go_wp2
          repeat (go_quiet (fail); try go_wp2)
          go_loopg [5, 8] k3 (fun kq v5 v8 w' => ∃ (x5_4 : Bool) (x8_4 : Int), v5 = .bool x5_4 ∧ v8 = .int .i64 x8_4 ∧ Aside0 (customsref08_Good.l1 kq 0 0 x5_4 x8_4 l0_0 l0_1 l0_2 a0_3 = some r) ∧ Aside0 (kq ≤ k3) ∧ Aside0 (w'.heap[gb11001]? = some (.cells #[(.slice A0_0 l0_0.length c0_0), (.slice A0_1 l0_1.length c0_1), (.slice A0_2 l0_2.length c0_2), .bool a0_3] 26 (0, 0))) ∧ Aside0 (Below w.heap.size w w'))
          case atStart => exact ⟨(false), (0), rls, rls, H', ⟨Nat.le_refl _⟩, ⟨blk_ext BK11001.out⟩, ⟨below_extB HB.out⟩⟩
          case round =>
           clear H'
           try clear c1
           try clear p1
           try clear q1
           try clear hx1
           try clear c2
           try clear p2
           try clear c3
           try clear c5
           try clear p6
           try clear c8
           try clear c10
           try clear c10b0
           try clear c10b1
           try clear c11
           try clear p11
           try clear q11
           try clear hx11
           try clear c13
           try clear c14
           try clear c14b0
           try clear c15
           try clear c15b0
           try clear c17
           try clear c18
           try clear c18b0
           try clear c20
           try clear c20b0
           try clear c21
           try clear c21b0
           try clear c22
           try clear c22b0
           try clear c25
           try clear c30
           try clear c35
           try clear c39
           try clear hcz11_0 hcz11_1 hcz11_2 hcz11_3
           try clear hcz12_0 hcz12_1 hcz12_2 hcz12_3
           try clear hcz23_0 hcz23_1 hcz23_2 hcz23_3
           try clear hcz26_0 hcz26_1
           try clear hcz27_0 hcz27_1 hcz27_2 hcz27_3
           try clear hcz28_0 hcz28_1 hcz28_2 hcz28_3
           try clear hcz31_0 hcz31_1
           try clear hcz32_0 hcz32_1 hcz32_2 hcz32_3
           try clear hcz33_0 hcz33_1 hcz33_2 hcz33_3
           try clear hcz36_0 hcz36_1
           try clear hcz37_0 hcz37_1 hcz37_2 hcz37_3
           try clear hcz40_0 hcz40_1
           try clear hcz41_0 hcz41_1 hcz41_2 hcz41_3
           try clear hcz6_0 hcz6_1 hcz6_2 hcz6_3
           try clear hcz7_0 hcz7_1 hcz7_2 hcz7_3
           try clear hfz11_0 hfz11_1 hfz11_2 hfz11_3
           try clear hfz12_0 hfz12_1 hfz12_2 hfz12_3
           try clear hfz23_0 hfz23_1 hfz23_2 hfz23_3
           try clear hfz26_0 hfz26_1
           try clear hfz27_0 hfz27_1 hfz27_2 hfz27_3
           try clear hfz28_0 hfz28_1 hfz28_2 hfz28_3
           try clear hfz31_0 hfz31_1
           try clear hfz32_0 hfz32_1 hfz32_2 hfz32_3
           try clear hfz33_0 hfz33_1 hfz33_2 hfz33_3
           try clear hfz36_0 hfz36_1
           try clear hfz37_0 hfz37_1 hfz37_2 hfz37_3
           try clear hfz40_0 hfz40_1
           try clear hfz41_0 hfz41_1 hfz41_2 hfz41_3
           try clear hfz6_0 hfz6_1 hfz6_2 hfz6_3
           try clear hfz7_0 hfz7_1 hfz7_2 hfz7_3
           try clear hx11003_0
           try clear hx11003_1
           try clear hx11006_0
           try clear hx11006_1
           try clear p11003
           try clear p11006
           try clear p2
           try clear q11003
           try clear q11006
           obtain ⟨x5_4, x8_4, rfl, rfl, HA, HK4, BK11001, HB⟩ := hrel
           cases gk with
           | zero => exact absurd HA.out (by simp [customsref08_Good.l1])
           | succ k4 =>
            have H := HA.out
            clear HA
            simp only [customsref08_Good.l1] at H
            by_cases c42 : x8_4 < (l0_2.length : Int)
            ·
             rw [if_pos c42] at H
             have c42b0 : decide (x8_4 < (l0_2.length : Int)) = true := decide_eq_true c42
             clear c42
             replace H := if_some H; obtain ⟨c43, H⟩ := H
             have c43b0 : decide (0 ≤ x8_4) = true := decide_eq_true c43
             clear c43
             replace H := Option.bind_eq_some_iff.mp H
             obtain ⟨t11008, A440, H⟩ := H
             try dsimp only at H
             have A44 := Aside0.mk A440
             clear A440
             by_cases c45 : t11008 = true
             ·
              subst c45
              have H1 : (if (((rd_T38 l0_2 x8_4).f0).length : Int) = 0 then (some 1) else (if x5_4 = true then (customsref08_Good.l1 k4 0 0 true (wrap64 (x8_4 + 1)) l0_0 l0_1 l0_2 a0_3) else (if ((rd_T38 l0_2 x8_4).f1) < 1 then (customsref08_Good.l1 k4 0 0 true (wrap64 (x8_4 + 1)) l0_0 l0_1 l0_2 a0_3) else (customsref08_Good.l1 k4 0 0 (decide (((rd_T38 l0_2 x8_4).f1) > 1000000)) (wrap64 (x8_4 + 1)) l0_0 l0_1 l0_2 a0_3)))) = some r := by rw [if_pos rfl] at H; exact H
              clear H
              have H := H1
              clear H1
              by_cases c46 : (((rd_T38 l0_2 x8_4).f0).length : Int) = 0
              ·
               rw [if_pos c46] at H
               have c46b0 : ((((rd_T38 l0_2 x8_4).f0).length : Int) == 0) = true := beq_iff_eq.mpr c46
               have c46b1 : ((((rd_T38 l0_2 x8_4).f0).length : Int) != 0) = false := bne_eq_false_iff_eq.mpr c46
               clear c46
               obtain rfl := Option.some.inj H
               obtain ⟨hcz47_0, hcz47_1, hcz47_2, hcz47_3, hfz47_0, hfz47_1, hfz47_2, hfz47_3⟩ := bk4 BK11001.out
               have p11007 : 0 ≤ (x8_4 : Int) := odt
               have q11007 : x8_4 < (l0_2.length : Int) := odt
               obtain ⟨ad11007, A11007_0, c11007_0, e11007, hx11007_0, hx11007_1, hl11007_0, hi11007_0⟩ := at_T38 HR0_2.out x8_4 p11007 q11007
               cases e11007
               (try replace hx11007_0 := (HB.out.cell (World.block_lt_of_cell? w _ hx11007_0)).trans hx11007_0)
               (try replace hx11007_1 := (HB.out.cell (World.block_lt_of_cell? w _ hx11007_1)).trans hx11007_1)
               have HR11007_0 := Aside0.mk hi11007_0
               have HC11007_0 := Aside0.mk hl11007_0
               clear hi11007_0 hl11007_0
               replace p11007 := eq_true p11007
               replace q11007 := eq_true q11007
               go_wp2_with (first | (go_at_call 30; (with_reducible refine (customsref08_Words.calls k4 _ _ ((rd_T38 l0_2 x8_4).f0) true _ ?side1 ?side2 A44.out).mono ?_); (case side1 => repeat (first | exact (Kd.C_below HR11007_0.out HB.out) | (with_reducible refine Kd.C_alloc ?_ _) | (with_reducible refine Kd.C_drewN ?_ _) | (with_reducible refine Kd.C_drew ?_))); (case side2 => exact HC11007_0.out); rintro e w' ⟨rfl, ⟨nd, rfl⟩⟩; (try first | exact ⟨rfl, _, World.drewN_drewN _ _ _⟩ | exact ⟨rfl, _, Eq.trans (World.drewN_drewN _ _ _) (congrArg (World.drewN _) (Nat.add_assoc _ _ _))⟩); have p11009 : 0 ≤ (x8_4 : Int) := odt; have q11009 : x8_4 < (l0_2.length : Int) := odt; obtain ⟨ad11009, A11009_0, c11009_0, e11009, hx11009_0, hx11009_1, hl11009_0, hi11009_0⟩ := at_T38 HR0_2.out x8_4 p11009 q11009; obtain rfl : ad11007 = ad11009 := (by injection e11009); replace hx11009_0 := (HB.out.cell (World.block_lt_of_cell? w _ hx11009_0)).trans hx11009_0; replace hx11009_1 := (HB.out.cell (World.block_lt_of_cell? w _ hx11009_1)).trans hx11009_1; have HR11009_0 := Aside0.mk hi11009_0; have HC11009_0 := Aside0.mk hl11009_0; clear hi11009_0 hl11009_0; replace p11009 := eq_true p11009; replace q11009 := eq_true q11009; have ea_ := Option.some.inj (hx11007_0.symm.trans hx11009_0); injection ea_ with ea_ en_ ec_; subst ea_; subst ec_; clear en_))
               repeat (go_quiet (first | (go_at_call 30; (with_reducible refine (customsref08_Words.calls k4 _ _ ((rd_T38 l0_2 x8_4).f0) true _ ?side1 ?side2 A44.out).mono ?_); (case side1 => repeat (first | exact (Kd.C_below HR11007_0.out HB.out) | (with_reducible refine Kd.C_alloc ?_ _) | (with_reducible refine Kd.C_drewN ?_ _) | (with_reducible refine Kd.C_drew ?_))); (case side2 => exact HC11007_0.out); rintro e w' ⟨rfl, ⟨nd, rfl⟩⟩; (try first | exact ⟨rfl, _, World.drewN_drewN _ _ _⟩ | exact ⟨rfl, _, Eq.trans (World.drewN_drewN _ _ _) (congrArg (World.drewN _) (Nat.add_assoc _ _ _))⟩); have p11009 : 0 ≤ (x8_4 : Int) := odt; have q11009 : x8_4 < (l0_2.length : Int) := odt; obtain ⟨ad11009, A11009_0, c11009_0, e11009, hx11009_0, hx11009_1, hl11009_0, hi11009_0⟩ := at_T38 HR0_2.out x8_4 p11009 q11009; obtain rfl : ad11007 = ad11009 := (by injection e11009); replace hx11009_0 := (HB.out.cell (World.block_lt_of_cell? w _ hx11009_0)).trans hx11009_0; replace hx11009_1 := (HB.out.cell (World.block_lt_of_cell? w _ hx11009_1)).trans hx11009_1; have HR11009_0 := Aside0.mk hi11009_0; have HC11009_0 := Aside0.mk hl11009_0; clear hi11009_0 hl11009_0; replace p11009 := eq_true p11009; replace q11009 := eq_true q11009; have ea_ := Option.some.inj (hx11007_0.symm.trans hx11009_0); injection ea_ with ea_ en_ ec_; subst ea_; subst ec_; clear en_)); try go_wp2_with (first | (go_at_call 30; (with_reducible refine (customsref08_Words.calls k4 _ _ ((rd_T38 l0_2 x8_4).f0) true _ ?side1 ?side2 A44.out).mono ?_); (case side1 => repeat (first | exact (Kd.C_below HR11007_0.out HB.out) | (with_reducible refine Kd.C_alloc ?_ _) | (with_reducible refine Kd.C_drewN ?_ _) | (with_reducible refine Kd.C_drew ?_))); (case side2 => exact HC11007_0.out); rintro e w' ⟨rfl, ⟨nd, rfl⟩⟩; (try first | exact ⟨rfl, _, World.drewN_drewN _ _ _⟩ | exact ⟨rfl, _, Eq.trans (World.drewN_drewN _ _ _) (congrArg (World.drewN _) (Nat.add_assoc _ _ _))⟩); have p11009 : 0 ≤ (x8_4 : Int) := odt; have q11009 : x8_4 < (l0_2.length : Int) := odt; obtain ⟨ad11009, A11009_0, c11009_0, e11009, hx11009_0, hx11009_1, hl11009_0, hi11009_0⟩ := at_T38 HR0_2.out x8_4 p11009 q11009; obtain rfl : ad11007 = ad11009 := (by injection e11009); replace hx11009_0 := (HB.out.cell (World.block_lt_of_cell? w _ hx11009_0)).trans hx11009_0; replace hx11009_1 := (HB.out.cell (World.block_lt_of_cell? w _ hx11009_1)).trans hx11009_1; have HR11009_0 := Aside0.mk hi11009_0; have HC11009_0 := Aside0.mk hl11009_0; clear hi11009_0 hl11009_0; replace p11009 := eq_true p11009; replace q11009 := eq_true q11009; have ea_ := Option.some.inj (hx11007_0.symm.trans hx11009_0); injection ea_ with ea_ en_ ec_; subst ea_; subst ec_; clear en_)))
               go_ret
               exact ⟨by first | rfl | (simp [errW_none, errW_some] <;> rfl) | (simp [*, errW_none, errW_some] <;> rfl), below_extB HB.out⟩
              ·
               rw [if_neg c46] at H
               have c46b0 : ((((rd_T38 l0_2 x8_4).f0).length : Int) == 0) = false := beq_eq_false_iff_ne.mpr c46
               have c46b1 : ((((rd_T38 l0_2 x8_4).f0).length : Int) != 0) = true := bne_iff_ne.mpr c46
               have c46b2 : ¬ (((rd_T38 l0_2 x8_4).f0) = []) := fun h_ => c46 (by rw [h_]; rfl)
               by_cases c48 : x5_4 = true
               ·
                subst c48
                have H1 : (customsref08_Good.l1 k4 0 0 true (wrap64 (x8_4 + 1)) l0_0 l0_1 l0_2 a0_3) = some r := by rw [if_pos rfl] at H; exact H
                clear H
                have H := H1
                clear H1
                have H' := Aside0.mk H
                clear H
                obtain ⟨hcz49_0, hcz49_1, hcz49_2, hcz49_3, hfz49_0, hfz49_1, hfz49_2, hfz49_3⟩ := bk4 BK11001.out
                have p11007 : 0 ≤ (x8_4 : Int) := odt
                have q11007 : x8_4 < (l0_2.length : Int) := odt
                obtain ⟨ad11007, A11007_0, c11007_0, e11007, hx11007_0, hx11007_1, hl11007_0, hi11007_0⟩ := at_T38 HR0_2.out x8_4 p11007 q11007
                cases e11007
                (try replace hx11007_0 := (HB.out.cell (World.block_lt_of_cell? w _ hx11007_0)).trans hx11007_0)
                (try replace hx11007_1 := (HB.out.cell (World.block_lt_of_cell? w _ hx11007_1)).trans hx11007_1)
                have HR11007_0 := Aside0.mk hi11007_0
                have HC11007_0 := Aside0.mk hl11007_0
                clear hi11007_0 hl11007_0
                replace p11007 := eq_true p11007
                replace q11007 := eq_true q11007
                go_wp2_with (first | (go_at_call 30; (with_reducible refine (customsref08_Words.calls k4 _ _ ((rd_T38 l0_2 x8_4).f0) true _ ?side1 ?side2 A44.out).mono ?_); (case side1 => repeat (first | exact (Kd.C_below HR11007_0.out HB.out) | (with_reducible refine Kd.C_alloc ?_ _) | (with_reducible refine Kd.C_drewN ?_ _) | (with_reducible refine Kd.C_drew ?_))); (case side2 => exact HC11007_0.out); rintro e w' ⟨rfl, ⟨nd, rfl⟩⟩; (try first | exact ⟨rfl, _, World.drewN_drewN _ _ _⟩ | exact ⟨rfl, _, Eq.trans (World.drewN_drewN _ _ _) (congrArg (World.drewN _) (Nat.add_assoc _ _ _))⟩); have p11009 : 0 ≤ (x8_4 : Int) := odt; have q11009 : x8_4 < (l0_2.length : Int) := odt; obtain ⟨ad11009, A11009_0, c11009_0, e11009, hx11009_0, hx11009_1, hl11009_0, hi11009_0⟩ := at_T38 HR0_2.out x8_4 p11009 q11009; obtain rfl : ad11007 = ad11009 := (by injection e11009); replace hx11009_0 := (HB.out.cell (World.block_lt_of_cell? w _ hx11009_0)).trans hx11009_0; replace hx11009_1 := (HB.out.cell (World.block_lt_of_cell? w _ hx11009_1)).trans hx11009_1; have HR11009_0 := Aside0.mk hi11009_0; have HC11009_0 := Aside0.mk hl11009_0; clear hi11009_0 hl11009_0; replace p11009 := eq_true p11009; replace q11009 := eq_true q11009; have ea_ := Option.some.inj (hx11007_0.symm.trans hx11009_0); injection ea_ with ea_ en_ ec_; subst ea_; subst ec_; clear en_))
                repeat (go_quiet (first | (go_at_call 30; (with_reducible refine (customsref08_Words.calls k4 _ _ ((rd_T38 l0_2 x8_4).f0) true _ ?side1 ?side2 A44.out).mono ?_); (case side1 => repeat (first | exact (Kd.C_below HR11007_0.out HB.out) | (with_reducible refine Kd.C_alloc ?_ _) | (with_reducible refine Kd.C_drewN ?_ _) | (with_reducible refine Kd.C_drew ?_))); (case side2 => exact HC11007_0.out); rintro e w' ⟨rfl, ⟨nd, rfl⟩⟩; (try first | exact ⟨rfl, _, World.drewN_drewN _ _ _⟩ | exact ⟨rfl, _, Eq.trans (World.drewN_drewN _ _ _) (congrArg (World.drewN _) (Nat.add_assoc _ _ _))⟩); have p11009 : 0 ≤ (x8_4 : Int) := odt; have q11009 : x8_4 < (l0_2.length : Int) := odt; obtain ⟨ad11009, A11009_0, c11009_0, e11009, hx11009_0, hx11009_1, hl11009_0, hi11009_0⟩ := at_T38 HR0_2.out x8_4 p11009 q11009; obtain rfl : ad11007 = ad11009 := (by injection e11009); replace hx11009_0 := (HB.out.cell (World.block_lt_of_cell? w _ hx11009_0)).trans hx11009_0; replace hx11009_1 := (HB.out.cell (World.block_lt_of_cell? w _ hx11009_1)).trans hx11009_1; have HR11009_0 := Aside0.mk hi11009_0; have HC11009_0 := Aside0.mk hl11009_0; clear hi11009_0 hl11009_0; replace p11009 := eq_true p11009; replace q11009 := eq_true q11009; have ea_ := Option.some.inj (hx11007_0.symm.trans hx11009_0); injection ea_ with ea_ en_ ec_; subst ea_; subst ec_; clear en_)); try go_wp2_with (first | (go_at_call 30; (with_reducible refine (customsref08_Words.calls k4 _ _ ((rd_T38 l0_2 x8_4).f0) true _ ?side1 ?side2 A44.out).mono ?_); (case side1 => repeat (first | exact (Kd.C_below HR11007_0.out HB.out) | (with_reducible refine Kd.C_alloc ?_ _) | (with_reducible refine Kd.C_drewN ?_ _) | (with_reducible refine Kd.C_drew ?_))); (case side2 => exact HC11007_0.out); rintro e w' ⟨rfl, ⟨nd, rfl⟩⟩; (try first | exact ⟨rfl, _, World.drewN_drewN _ _ _⟩ | exact ⟨rfl, _, Eq.trans (World.drewN_drewN _ _ _) (congrArg (World.drewN _) (Nat.add_assoc _ _ _))⟩); have p11009 : 0 ≤ (x8_4 : Int) := odt; have q11009 : x8_4 < (l0_2.length : Int) := odt; obtain ⟨ad11009, A11009_0, c11009_0, e11009, hx11009_0, hx11009_1, hl11009_0, hi11009_0⟩ := at_T38 HR0_2.out x8_4 p11009 q11009; obtain rfl : ad11007 = ad11009 := (by injection e11009); replace hx11009_0 := (HB.out.cell (World.block_lt_of_cell? w _ hx11009_0)).trans hx11009_0; replace hx11009_1 := (HB.out.cell (World.block_lt_of_cell? w _ hx11009_1)).trans hx11009_1; have HR11009_0 := Aside0.mk hi11009_0; have HC11009_0 := Aside0.mk hl11009_0; clear hi11009_0 hl11009_0; replace p11009 := eq_true p11009; replace q11009 := eq_true q11009; have ea_ := Option.some.inj (hx11007_0.symm.trans hx11009_0); injection ea_ with ea_ en_ ec_; subst ea_; subst ec_; clear en_)))
                go_roundg k4
                case measure => have := HJ1.out; have := HJ8.out; have := HK3.out; have := HK4.out; omega
                case rel => exact ⟨(true), (wrap64 (x8_4 + 1)), rls, rls, H', ⟨by have := HJ1.out; have := HJ8.out; have := HK3.out; have := HK4.out; omega⟩, ⟨blk_ext BK11001.out⟩, ⟨below_extB HB.out⟩⟩
               ·
                replace c48 := Bool.eq_false_iff.mpr c48
                subst c48
                have H1 : (if ((rd_T38 l0_2 x8_4).f1) < 1 then (customsref08_Good.l1 k4 0 0 true (wrap64 (x8_4 + 1)) l0_0 l0_1 l0_2 a0_3) else (customsref08_Good.l1 k4 0 0 (decide (((rd_T38 l0_2 x8_4).f1) > 1000000)) (wrap64 (x8_4 + 1)) l0_0 l0_1 l0_2 a0_3)) = some r := by rw [if_neg (show ¬ (false = true) by decide)] at H; exact H
                clear H
                have H := H1
                clear H1
                by_cases c50 : ((rd_T38 l0_2 x8_4).f1) < 1
                ·
                 rw [if_pos c50] at H
                 have c50b0 : decide (((rd_T38 l0_2 x8_4).f1) < 1) = true := decide_eq_true c50
                 clear c50
                 have H' := Aside0.mk H
                 clear H
                 obtain ⟨hcz51_0, hcz51_1, hcz51_2, hcz51_3, hfz51_0, hfz51_1, hfz51_2, hfz51_3⟩ := bk4 BK11001.out
                 have p11007 : 0 ≤ (x8_4 : Int) := odt
                 have q11007 : x8_4 < (l0_2.length : Int) := odt
                 obtain ⟨ad11007, A11007_0, c11007_0, e11007, hx11007_0, hx11007_1, hl11007_0, hi11007_0⟩ := at_T38 HR0_2.out x8_4 p11007 q11007
                 cases e11007
                 (try replace hx11007_0 := (HB.out.cell (World.block_lt_of_cell? w _ hx11007_0)).trans hx11007_0)
                 (try replace hx11007_1 := (HB.out.cell (World.block_lt_of_cell? w _ hx11007_1)).trans hx11007_1)
                 have HR11007_0 := Aside0.mk hi11007_0
                 have HC11007_0 := Aside0.mk hl11007_0
                 clear hi11007_0 hl11007_0
                 replace p11007 := eq_true p11007
                 replace q11007 := eq_true q11007
                 go_wp2_with (first | (go_at_call 30; (with_reducible refine (customsref08_Words.calls k4 _ _ ((rd_T38 l0_2 x8_4).f0) true _ ?side1 ?side2 A44.out).mono ?_); (case side1 => repeat (first | exact (Kd.C_below HR11007_0.out HB.out) | (with_reducible refine Kd.C_alloc ?_ _) | (with_reducible refine Kd.C_drewN ?_ _) | (with_reducible refine Kd.C_drew ?_))); (case side2 => exact HC11007_0.out); rintro e w' ⟨rfl, ⟨nd, rfl⟩⟩; (try first | exact ⟨rfl, _, World.drewN_drewN _ _ _⟩ | exact ⟨rfl, _, Eq.trans (World.drewN_drewN _ _ _) (congrArg (World.drewN _) (Nat.add_assoc _ _ _))⟩); have p11009 : 0 ≤ (x8_4 : Int) := odt; have q11009 : x8_4 < (l0_2.length : Int) := odt; obtain ⟨ad11009, A11009_0, c11009_0, e11009, hx11009_0, hx11009_1, hl11009_0, hi11009_0⟩ := at_T38 HR0_2.out x8_4 p11009 q11009; obtain rfl : ad11007 = ad11009 := (by injection e11009); replace hx11009_0 := (HB.out.cell (World.block_lt_of_cell? w _ hx11009_0)).trans hx11009_0; replace hx11009_1 := (HB.out.cell (World.block_lt_of_cell? w _ hx11009_1)).trans hx11009_1; have HR11009_0 := Aside0.mk hi11009_0; have HC11009_0 := Aside0.mk hl11009_0; clear hi11009_0 hl11009_0; replace p11009 := eq_true p11009; replace q11009 := eq_true q11009; have ea_ := Option.some.inj (hx11007_0.symm.trans hx11009_0); injection ea_ with ea_ en_ ec_; subst ea_; subst ec_; clear en_; have p11010 : 0 ≤ (x8_4 : Int) := odt; have q11010 : x8_4 < (l0_2.length : Int) := odt; obtain ⟨ad11010, A11010_0, c11010_0, e11010, hx11010_0, hx11010_1, hl11010_0, hi11010_0⟩ := at_T38 HR0_2.out x8_4 p11010 q11010; obtain rfl : ad11007 = ad11010 := (by injection e11010); replace hx11010_0 := (HB.out.cell (World.block_lt_of_cell? w _ hx11010_0)).trans hx11010_0; replace hx11010_1 := (HB.out.cell (World.block_lt_of_cell? w _ hx11010_1)).trans hx11010_1; have HR11010_0 := Aside0.mk hi11010_0; have HC11010_0 := Aside0.mk hl11010_0; clear hi11010_0 hl11010_0; replace p11010 := eq_true p11010; replace q11010 := eq_true q11010; have ea_ := Option.some.inj (hx11007_0.symm.trans hx11010_0); injection ea_ with ea_ en_ ec_; subst ea_; subst ec_; clear en_))
                 repeat (go_quiet (first | (go_at_call 30; (with_reducible refine (customsref08_Words.calls k4 _ _ ((rd_T38 l0_2 x8_4).f0) true _ ?side1 ?side2 A44.out).mono ?_); (case side1 => repeat (first | exact (Kd.C_below HR11007_0.out HB.out) | (with_reducible refine Kd.C_alloc ?_ _) | (with_reducible refine Kd.C_drewN ?_ _) | (with_reducible refine Kd.C_drew ?_))); (case side2 => exact HC11007_0.out); rintro e w' ⟨rfl, ⟨nd, rfl⟩⟩; (try first | exact ⟨rfl, _, World.drewN_drewN _ _ _⟩ | exact ⟨rfl, _, Eq.trans (World.drewN_drewN _ _ _) (congrArg (World.drewN _) (Nat.add_assoc _ _ _))⟩); have p11009 : 0 ≤ (x8_4 : Int) := odt; have q11009 : x8_4 < (l0_2.length : Int) := odt; obtain ⟨ad11009, A11009_0, c11009_0, e11009, hx11009_0, hx11009_1, hl11009_0, hi11009_0⟩ := at_T38 HR0_2.out x8_4 p11009 q11009; obtain rfl : ad11007 = ad11009 := (by injection e11009); replace hx11009_0 := (HB.out.cell (World.block_lt_of_cell? w _ hx11009_0)).trans hx11009_0; replace hx11009_1 := (HB.out.cell (World.block_lt_of_cell? w _ hx11009_1)).trans hx11009_1; have HR11009_0 := Aside0.mk hi11009_0; have HC11009_0 := Aside0.mk hl11009_0; clear hi11009_0 hl11009_0; replace p11009 := eq_true p11009; replace q11009 := eq_true q11009; have ea_ := Option.some.inj (hx11007_0.symm.trans hx11009_0); injection ea_ with ea_ en_ ec_; subst ea_; subst ec_; clear en_; have p11010 : 0 ≤ (x8_4 : Int) := odt; have q11010 : x8_4 < (l0_2.length : Int) := odt; obtain ⟨ad11010, A11010_0, c11010_0, e11010, hx11010_0, hx11010_1, hl11010_0, hi11010_0⟩ := at_T38 HR0_2.out x8_4 p11010 q11010; obtain rfl : ad11007 = ad11010 := (by injection e11010); replace hx11010_0 := (HB.out.cell (World.block_lt_of_cell? w _ hx11010_0)).trans hx11010_0; replace hx11010_1 := (HB.out.cell (World.block_lt_of_cell? w _ hx11010_1)).trans hx11010_1; have HR11010_0 := Aside0.mk hi11010_0; have HC11010_0 := Aside0.mk hl11010_0; clear hi11010_0 hl11010_0; replace p11010 := eq_true p11010; replace q11010 := eq_true q11010; have ea_ := Option.some.inj (hx11007_0.symm.trans hx11010_0); injection ea_ with ea_ en_ ec_; subst ea_; subst ec_; clear en_)); try go_wp2_with (first | (go_at_call 30; (with_reducible refine (customsref08_Words.calls k4 _ _ ((rd_T38 l0_2 x8_4).f0) true _ ?side1 ?side2 A44.out).mono ?_); (case side1 => repeat (first | exact (Kd.C_below HR11007_0.out HB.out) | (with_reducible refine Kd.C_alloc ?_ _) | (with_reducible refine Kd.C_drewN ?_ _) | (with_reducible refine Kd.C_drew ?_))); (case side2 => exact HC11007_0.out); rintro e w' ⟨rfl, ⟨nd, rfl⟩⟩; (try first | exact ⟨rfl, _, World.drewN_drewN _ _ _⟩ | exact ⟨rfl, _, Eq.trans (World.drewN_drewN _ _ _) (congrArg (World.drewN _) (Nat.add_assoc _ _ _))⟩); have p11009 : 0 ≤ (x8_4 : Int) := odt; have q11009 : x8_4 < (l0_2.length : Int) := odt; obtain ⟨ad11009, A11009_0, c11009_0, e11009, hx11009_0, hx11009_1, hl11009_0, hi11009_0⟩ := at_T38 HR0_2.out x8_4 p11009 q11009; obtain rfl : ad11007 = ad11009 := (by injection e11009); replace hx11009_0 := (HB.out.cell (World.block_lt_of_cell? w _ hx11009_0)).trans hx11009_0; replace hx11009_1 := (HB.out.cell (World.block_lt_of_cell? w _ hx11009_1)).trans hx11009_1; have HR11009_0 := Aside0.mk hi11009_0; have HC11009_0 := Aside0.mk hl11009_0; clear hi11009_0 hl11009_0; replace p11009 := eq_true p11009; replace q11009 := eq_true q11009; have ea_ := Option.some.inj (hx11007_0.symm.trans hx11009_0); injection ea_ with ea_ en_ ec_; subst ea_; subst ec_; clear en_; have p11010 : 0 ≤ (x8_4 : Int) := odt; have q11010 : x8_4 < (l0_2.length : Int) := odt; obtain ⟨ad11010, A11010_0, c11010_0, e11010, hx11010_0, hx11010_1, hl11010_0, hi11010_0⟩ := at_T38 HR0_2.out x8_4 p11010 q11010; obtain rfl : ad11007 = ad11010 := (by injection e11010); replace hx11010_0 := (HB.out.cell (World.block_lt_of_cell? w _ hx11010_0)).trans hx11010_0; replace hx11010_1 := (HB.out.cell (World.block_lt_of_cell? w _ hx11010_1)).trans hx11010_1; have HR11010_0 := Aside0.mk hi11010_0; have HC11010_0 := Aside0.mk hl11010_0; clear hi11010_0 hl11010_0; replace p11010 := eq_true p11010; replace q11010 := eq_true q11010; have ea_ := Option.some.inj (hx11007_0.symm.trans hx11010_0); injection ea_ with ea_ en_ ec_; subst ea_; subst ec_; clear en_)))
                 go_roundg k4
                 case measure => have := HJ1.out; have := HJ8.out; have := HK3.out; have := HK4.out; omega
                 case rel => exact ⟨(true), (wrap64 (x8_4 + 1)), rls, rls, H', ⟨by have := HJ1.out; have := HJ8.out; have := HK3.out; have := HK4.out; omega⟩, ⟨blk_ext BK11001.out⟩, ⟨below_extB HB.out⟩⟩
                ·
                 rw [if_neg c50] at H
                 have c50b0 : decide (((rd_T38 l0_2 x8_4).f1) < 1) = false := decide_eq_false c50
                 clear c50
                 have H' := Aside0.mk H
                 clear H
                 obtain ⟨hcz52_0, hcz52_1, hcz52_2, hcz52_3, hfz52_0, hfz52_1, hfz52_2, hfz52_3⟩ := bk4 BK11001.out
                 have p11007 : 0 ≤ (x8_4 : Int) := odt
                 have q11007 : x8_4 < (l0_2.length : Int) := odt
                 obtain ⟨ad11007, A11007_0, c11007_0, e11007, hx11007_0, hx11007_1, hl11007_0, hi11007_0⟩ := at_T38 HR0_2.out x8_4 p11007 q11007
                 cases e11007
                 (try replace hx11007_0 := (HB.out.cell (World.block_lt_of_cell? w _ hx11007_0)).trans hx11007_0)
                 (try replace hx11007_1 := (HB.out.cell (World.block_lt_of_cell? w _ hx11007_1)).trans hx11007_1)
                 have HR11007_0 := Aside0.mk hi11007_0
                 have HC11007_0 := Aside0.mk hl11007_0
                 clear hi11007_0 hl11007_0
                 replace p11007 := eq_true p11007
                 replace q11007 := eq_true q11007
                 go_wp2_with (first | (go_at_call 30; (with_reducible refine (customsref08_Words.calls k4 _ _ ((rd_T38 l0_2 x8_4).f0) true _ ?side1 ?side2 A44.out).mono ?_); (case side1 => repeat (first | exact (Kd.C_below HR11007_0.out HB.out) | (with_reducible refine Kd.C_alloc ?_ _) | (with_reducible refine Kd.C_drewN ?_ _) | (with_reducible refine Kd.C_drew ?_))); (case side2 => exact HC11007_0.out); rintro e w' ⟨rfl, ⟨nd, rfl⟩⟩; (try first | exact ⟨rfl, _, World.drewN_drewN _ _ _⟩ | exact ⟨rfl, _, Eq.trans (World.drewN_drewN _ _ _) (congrArg (World.drewN _) (Nat.add_assoc _ _ _))⟩); have p11009 : 0 ≤ (x8_4 : Int) := odt; have q11009 : x8_4 < (l0_2.length : Int) := odt; obtain ⟨ad11009, A11009_0, c11009_0, e11009, hx11009_0, hx11009_1, hl11009_0, hi11009_0⟩ := at_T38 HR0_2.out x8_4 p11009 q11009; obtain rfl : ad11007 = ad11009 := (by injection e11009); replace hx11009_0 := (HB.out.cell (World.block_lt_of_cell? w _ hx11009_0)).trans hx11009_0; replace hx11009_1 := (HB.out.cell (World.block_lt_of_cell? w _ hx11009_1)).trans hx11009_1; have HR11009_0 := Aside0.mk hi11009_0; have HC11009_0 := Aside0.mk hl11009_0; clear hi11009_0 hl11009_0; replace p11009 := eq_true p11009; replace q11009 := eq_true q11009; have ea_ := Option.some.inj (hx11007_0.symm.trans hx11009_0); injection ea_ with ea_ en_ ec_; subst ea_; subst ec_; clear en_; have p11010 : 0 ≤ (x8_4 : Int) := odt; have q11010 : x8_4 < (l0_2.length : Int) := odt; obtain ⟨ad11010, A11010_0, c11010_0, e11010, hx11010_0, hx11010_1, hl11010_0, hi11010_0⟩ := at_T38 HR0_2.out x8_4 p11010 q11010; obtain rfl : ad11007 = ad11010 := (by injection e11010); replace hx11010_0 := (HB.out.cell (World.block_lt_of_cell? w _ hx11010_0)).trans hx11010_0; replace hx11010_1 := (HB.out.cell (World.block_lt_of_cell? w _ hx11010_1)).trans hx11010_1; have HR11010_0 := Aside0.mk hi11010_0; have HC11010_0 := Aside0.mk hl11010_0; clear hi11010_0 hl11010_0; replace p11010 := eq_true p11010; replace q11010 := eq_true q11010; have ea_ := Option.some.inj (hx11007_0.symm.trans hx11010_0); injection ea_ with ea_ en_ ec_; subst ea_; subst ec_; clear en_; have p11011 : 0 ≤ (x8_4 : Int) := odt; have q11011 : x8_4 < (l0_2.length : Int) := odt; obtain ⟨ad11011, A11011_0, c11011_0, e11011, hx11011_0, hx11011_1, hl11011_0, hi11011_0⟩ := at_T38 HR0_2.out x8_4 p11011 q11011; obtain rfl : ad11007 = ad11011 := (by injection e11011); replace hx11011_0 := (HB.out.cell (World.block_lt_of_cell? w _ hx11011_0)).trans hx11011_0; replace hx11011_1 := (HB.out.cell (World.block_lt_of_cell? w _ hx11011_1)).trans hx11011_1; have HR11011_0 := Aside0.mk hi11011_0; have HC11011_0 := Aside0.mk hl11011_0; clear hi11011_0 hl11011_0; replace p11011 := eq_true p11011; replace q11011 := eq_true q11011; have ea_ := Option.some.inj (hx11007_0.symm.trans hx11011_0); injection ea_ with ea_ en_ ec_; subst ea_; subst ec_; clear en_))
                 repeat (go_quiet (first | (go_at_call 30; (with_reducible refine (customsref08_Words.calls k4 _ _ ((rd_T38 l0_2 x8_4).f0) true _ ?side1 ?side2 A44.out).mono ?_); (case side1 => repeat (first | exact (Kd.C_below HR11007_0.out HB.out) | (with_reducible refine Kd.C_alloc ?_ _) | (with_reducible refine Kd.C_drewN ?_ _) | (with_reducible refine Kd.C_drew ?_))); (case side2 => exact HC11007_0.out); rintro e w' ⟨rfl, ⟨nd, rfl⟩⟩; (try first | exact ⟨rfl, _, World.drewN_drewN _ _ _⟩ | exact ⟨rfl, _, Eq.trans (World.drewN_drewN _ _ _) (congrArg (World.drewN _) (Nat.add_assoc _ _ _))⟩); have p11009 : 0 ≤ (x8_4 : Int) := odt; have q11009 : x8_4 < (l0_2.length : Int) := odt; obtain ⟨ad11009, A11009_0, c11009_0, e11009, hx11009_0, hx11009_1, hl11009_0, hi11009_0⟩ := at_T38 HR0_2.out x8_4 p11009 q11009; obtain rfl : ad11007 = ad11009 := (by injection e11009); replace hx11009_0 := (HB.out.cell (World.block_lt_of_cell? w _ hx11009_0)).trans hx11009_0; replace hx11009_1 := (HB.out.cell (World.block_lt_of_cell? w _ hx11009_1)).trans hx11009_1; have HR11009_0 := Aside0.mk hi11009_0; have HC11009_0 := Aside0.mk hl11009_0; clear hi11009_0 hl11009_0; replace p11009 := eq_true p11009; replace q11009 := eq_true q11009; have ea_ := Option.some.inj (hx11007_0.symm.trans hx11009_0); injection ea_ with ea_ en_ ec_; subst ea_; subst ec_; clear en_; have p11010 : 0 ≤ (x8_4 : Int) := odt; have q11010 : x8_4 < (l0_2.length : Int) := odt; obtain ⟨ad11010, A11010_0, c11010_0, e11010, hx11010_0, hx11010_1, hl11010_0, hi11010_0⟩ := at_T38 HR0_2.out x8_4 p11010 q11010; obtain rfl : ad11007 = ad11010 := (by injection e11010); replace hx11010_0 := (HB.out.cell (World.block_lt_of_cell? w _ hx11010_0)).trans hx11010_0; replace hx11010_1 := (HB.out.cell (World.block_lt_of_cell? w _ hx11010_1)).trans hx11010_1; have HR11010_0 := Aside0.mk hi11010_0; have HC11010_0 := Aside0.mk hl11010_0; clear hi11010_0 hl11010_0; replace p11010 := eq_true p11010; replace q11010 := eq_true q11010; have ea_ := Option.some.inj (hx11007_0.symm.trans hx11010_0); injection ea_ with ea_ en_ ec_; subst ea_; subst ec_; clear en_; have p11011 : 0 ≤ (x8_4 : Int) := odt; have q11011 : x8_4 < (l0_2.length : Int) := odt; obtain ⟨ad11011, A11011_0, c11011_0, e11011, hx11011_0, hx11011_1, hl11011_0, hi11011_0⟩ := at_T38 HR0_2.out x8_4 p11011 q11011; obtain rfl : ad11007 = ad11011 := (by injection e11011); replace hx11011_0 := (HB.out.cell (World.block_lt_of_cell? w _ hx11011_0)).trans hx11011_0; replace hx11011_1 := (HB.out.cell (World.block_lt_of_cell? w _ hx11011_1)).trans hx11011_1; have HR11011_0 := Aside0.mk hi11011_0; have HC11011_0 := Aside0.mk hl11011_0; clear hi11011_0 hl11011_0; replace p11011 := eq_true p11011; replace q11011 := eq_true q11011; have ea_ := Option.some.inj (hx11007_0.symm.trans hx11011_0); injection ea_ with ea_ en_ ec_; subst ea_; subst ec_; clear en_)); try go_wp2_with (first | (go_at_call 30; (with_reducible refine (customsref08_Words.calls k4 _ _ ((rd_T38 l0_2 x8_4).f0) true _ ?side1 ?side2 A44.out).mono ?_); (case side1 => repeat (first | exact (Kd.C_below HR11007_0.out HB.out) | (with_reducible refine Kd.C_alloc ?_ _) | (with_reducible refine Kd.C_drewN ?_ _) | (with_reducible refine Kd.C_drew ?_))); (case side2 => exact HC11007_0.out); rintro e w' ⟨rfl, ⟨nd, rfl⟩⟩; (try first | exact ⟨rfl, _, World.drewN_drewN _ _ _⟩ | exact ⟨rfl, _, Eq.trans (World.drewN_drewN _ _ _) (congrArg (World.drewN _) (Nat.add_assoc _ _ _))⟩); have p11009 : 0 ≤ (x8_4 : Int) := odt; have q11009 : x8_4 < (l0_2.length : Int) := odt; obtain ⟨ad11009, A11009_0, c11009_0, e11009, hx11009_0, hx11009_1, hl11009_0, hi11009_0⟩ := at_T38 HR0_2.out x8_4 p11009 q11009; obtain rfl : ad11007 = ad11009 := (by injection e11009); replace hx11009_0 := (HB.out.cell (World.block_lt_of_cell? w _ hx11009_0)).trans hx11009_0; replace hx11009_1 := (HB.out.cell (World.block_lt_of_cell? w _ hx11009_1)).trans hx11009_1; have HR11009_0 := Aside0.mk hi11009_0; have HC11009_0 := Aside0.mk hl11009_0; clear hi11009_0 hl11009_0; replace p11009 := eq_true p11009; replace q11009 := eq_true q11009; have ea_ := Option.some.inj (hx11007_0.symm.trans hx11009_0); injection ea_ with ea_ en_ ec_; subst ea_; subst ec_; clear en_; have p11010 : 0 ≤ (x8_4 : Int) := odt; have q11010 : x8_4 < (l0_2.length : Int) := odt; obtain ⟨ad11010, A11010_0, c11010_0, e11010, hx11010_0, hx11010_1, hl11010_0, hi11010_0⟩ := at_T38 HR0_2.out x8_4 p11010 q11010; obtain rfl : ad11007 = ad11010 := (by injection e11010); replace hx11010_0 := (HB.out.cell (World.block_lt_of_cell? w _ hx11010_0)).trans hx11010_0; replace hx11010_1 := (HB.out.cell (World.block_lt_of_cell? w _ hx11010_1)).trans hx11010_1; have HR11010_0 := Aside0.mk hi11010_0; have HC11010_0 := Aside0.mk hl11010_0; clear hi11010_0 hl11010_0; replace p11010 := eq_true p11010; replace q11010 := eq_true q11010; have ea_ := Option.some.inj (hx11007_0.symm.trans hx11010_0); injection ea_ with ea_ en_ ec_; subst ea_; subst ec_; clear en_; have p11011 : 0 ≤ (x8_4 : Int) := odt; have q11011 : x8_4 < (l0_2.length : Int) := odt; obtain ⟨ad11011, A11011_0, c11011_0, e11011, hx11011_0, hx11011_1, hl11011_0, hi11011_0⟩ := at_T38 HR0_2.out x8_4 p11011 q11011; obtain rfl : ad11007 = ad11011 := (by injection e11011); replace hx11011_0 := (HB.out.cell (World.block_lt_of_cell? w _ hx11011_0)).trans hx11011_0; replace hx11011_1 := (HB.out.cell (World.block_lt_of_cell? w _ hx11011_1)).trans hx11011_1; have HR11011_0 := Aside0.mk hi11011_0; have HC11011_0 := Aside0.mk hl11011_0; clear hi11011_0 hl11011_0; replace p11011 := eq_true p11011; replace q11011 := eq_true q11011; have ea_ := Option.some.inj (hx11007_0.symm.trans hx11011_0); injection ea_ with ea_ en_ ec_; subst ea_; subst ec_; clear en_)))
                 go_roundg k4
                 case measure => have := HJ1.out; have := HJ8.out; have := HK3.out; have := HK4.out; omega
                 case rel => exact ⟨(decide (((rd_T38 l0_2 x8_4).f1) > 1000000)), (wrap64 (x8_4 + 1)), rls, rls, H', ⟨by have := HJ1.out; have := HJ8.out; have := HK3.out; have := HK4.out; omega⟩, ⟨blk_ext BK11001.out⟩, ⟨below_extB HB.out⟩⟩
             ·
              replace c45 := Bool.eq_false_iff.mpr c45
              subst c45
              have H1 : (some 1) = some r := by rw [if_neg (show ¬ (false = true) by decide)] at H; exact H
              clear H
              have H := H1
              clear H1
              obtain rfl := Option.some.inj H
              obtain ⟨hcz53_0, hcz53_1, hcz53_2, hcz53_3, hfz53_0, hfz53_1, hfz53_2, hfz53_3⟩ := bk4 BK11001.out
              have p11007 : 0 ≤ (x8_4 : Int) := odt
              have q11007 : x8_4 < (l0_2.length : Int) := odt
              obtain ⟨ad11007, A11007_0, c11007_0, e11007, hx11007_0, hx11007_1, hl11007_0, hi11007_0⟩ := at_T38 HR0_2.out x8_4 p11007 q11007
              cases e11007
              (try replace hx11007_0 := (HB.out.cell (World.block_lt_of_cell? w _ hx11007_0)).trans hx11007_0)
              (try replace hx11007_1 := (HB.out.cell (World.block_lt_of_cell? w _ hx11007_1)).trans hx11007_1)
              have HR11007_0 := Aside0.mk hi11007_0
              have HC11007_0 := Aside0.mk hl11007_0
              clear hi11007_0 hl11007_0
              replace p11007 := eq_true p11007
              replace q11007 := eq_true q11007
              go_wp2_with (first | (go_at_call 30; (with_reducible refine (customsref08_Words.calls k4 _ _ ((rd_T38 l0_2 x8_4).f0) false _ ?side1 ?side2 A44.out).mono ?_); (case side1 => repeat (first | exact (Kd.C_below HR11007_0.out HB.out) | (with_reducible refine Kd.C_alloc ?_ _) | (with_reducible refine Kd.C_drewN ?_ _) | (with_reducible refine Kd.C_drew ?_))); (case side2 => exact HC11007_0.out); rintro e w' ⟨rfl, ⟨nd, rfl⟩⟩; (try first | exact ⟨rfl, _, World.drewN_drewN _ _ _⟩ | exact ⟨rfl, _, Eq.trans (World.drewN_drewN _ _ _) (congrArg (World.drewN _) (Nat.add_assoc _ _ _))⟩)))
              repeat (go_quiet (first | (go_at_call 30; (with_reducible refine (customsref08_Words.calls k4 _ _ ((rd_T38 l0_2 x8_4).f0) false _ ?side1 ?side2 A44.out).mono ?_); (case side1 => repeat (first | exact (Kd.C_below HR11007_0.out HB.out) | (with_reducible refine Kd.C_alloc ?_ _) | (with_reducible refine Kd.C_drewN ?_ _) | (with_reducible refine Kd.C_drew ?_))); (case side2 => exact HC11007_0.out); rintro e w' ⟨rfl, ⟨nd, rfl⟩⟩; (try first | exact ⟨rfl, _, World.drewN_drewN _ _ _⟩ | exact ⟨rfl, _, Eq.trans (World.drewN_drewN _ _ _) (congrArg (World.drewN _) (Nat.add_assoc _ _ _))⟩))); try go_wp2_with (first | (go_at_call 30; (with_reducible refine (customsref08_Words.calls k4 _ _ ((rd_T38 l0_2 x8_4).f0) false _ ?side1 ?side2 A44.out).mono ?_); (case side1 => repeat (first | exact (Kd.C_below HR11007_0.out HB.out) | (with_reducible refine Kd.C_alloc ?_ _) | (with_reducible refine Kd.C_drewN ?_ _) | (with_reducible refine Kd.C_drew ?_))); (case side2 => exact HC11007_0.out); rintro e w' ⟨rfl, ⟨nd, rfl⟩⟩; (try first | exact ⟨rfl, _, World.drewN_drewN _ _ _⟩ | exact ⟨rfl, _, Eq.trans (World.drewN_drewN _ _ _) (congrArg (World.drewN _) (Nat.add_assoc _ _ _))⟩))))
              go_ret
              exact ⟨by first | rfl | (simp [errW_none, errW_some] <;> rfl) | (simp [*, errW_none, errW_some] <;> rfl), below_extB HB.out⟩
            ·
             rw [if_neg c42] at H
             have c42b0 : decide (x8_4 < (l0_2.length : Int)) = false := decide_eq_false c42
             clear c42
             have H' := Aside0.mk H
             clear H
             obtain ⟨hcz54_0, hcz54_1, hcz54_2, hcz54_3, hfz54_0, hfz54_1, hfz54_2, hfz54_3⟩ := bk4 BK11001.out
             go_wp2
             repeat (go_quiet (fail); try go_wp2)
             go_loopg [5, 9] k4 (fun kq v5 v9 w' => ∃ (x5_5 : Bool) (x9_5 : Int), v5 = .bool x5_5 ∧ v9 = .int .i64 x9_5 ∧ Aside0 (customsref08_Good.l2 kq 0 0 x5_5 x9_5 l0_0 l0_1 l0_2 a0_3 = some r) ∧ Aside0 (kq ≤ k4) ∧ Aside0 (w'.heap[gb11001]? = some (.cells #[(.slice A0_0 l0_0.length c0_0), (.slice A0_1 l0_1.length c0_1), (.slice A0_2 l0_2.length c0_2), .bool a0_3] 26 (0, 0))) ∧ Aside0 (Below w.heap.size w w'))
             case atStart => exact ⟨(x5_4), (0), rls, rls, H', ⟨Nat.le_refl _⟩, ⟨blk_ext BK11001.out⟩, ⟨below_extB HB.out⟩⟩
             case round =>
              clear H'
              try clear c1
              try clear p1
              try clear q1
              try clear hx1
              try clear c2
              try clear p2
              try clear c3
              try clear c4
              try clear c5
              try clear p6
              try clear c8
              try clear c10
              try clear c10b0
              try clear c10b1
              try clear c11
              try clear p11
              try clear q11
              try clear hx11
              try clear c13
              try clear c14
              try clear c14b0
              try clear c15
              try clear c15b0
              try clear c17
              try clear c18
              try clear c18b0
              try clear c20
              try clear c20b0
              try clear c21
              try clear c21b0
              try clear c22
              try clear c22b0
              try clear c25
              try clear c30
              try clear c35
              try clear c39
              try clear c42
              try clear c42b0
              try clear c43
              try clear c43b0
              try clear c45
              try clear c46
              try clear c46b0
              try clear c46b1
              try clear c46b2
              try clear c48
              try clear c50
              try clear c50b0
              try clear hcz11_0 hcz11_1 hcz11_2 hcz11_3
              try clear hcz12_0 hcz12_1 hcz12_2 hcz12_3
              try clear hcz23_0 hcz23_1 hcz23_2 hcz23_3
              try clear hcz26_0 hcz26_1
              try clear hcz27_0 hcz27_1 hcz27_2 hcz27_3
              try clear hcz28_0 hcz28_1 hcz28_2 hcz28_3
              try clear hcz31_0 hcz31_1
              try clear hcz32_0 hcz32_1 hcz32_2 hcz32_3
              try clear hcz33_0 hcz33_1 hcz33_2 hcz33_3
              try clear hcz36_0 hcz36_1
              try clear hcz37_0 hcz37_1 hcz37_2 hcz37_3
              try clear hcz40_0 hcz40_1
              try clear hcz41_0 hcz41_1 hcz41_2 hcz41_3
              try clear hcz47_0 hcz47_1 hcz47_2 hcz47_3
              try clear hcz49_0 hcz49_1 hcz49_2 hcz49_3
              try clear hcz51_0 hcz51_1 hcz51_2 hcz51_3
              try clear hcz52_0 hcz52_1 hcz52_2 hcz52_3
              try clear hcz53_0 hcz53_1 hcz53_2 hcz53_3
              try clear hcz54_0 hcz54_1 hcz54_2 hcz54_3
              try clear hcz6_0 hcz6_1 hcz6_2 hcz6_3
              try clear hcz7_0 hcz7_1 hcz7_2 hcz7_3
              try clear hfz11_0 hfz11_1 hfz11_2 hfz11_3
              try clear hfz12_0 hfz12_1 hfz12_2 hfz12_3
              try clear hfz23_0 hfz23_1 hfz23_2 hfz23_3
              try clear hfz26_0 hfz26_1
              try clear hfz27_0 hfz27_1 hfz27_2 hfz27_3
              try clear hfz28_0 hfz28_1 hfz28_2 hfz28_3
              try clear hfz31_0 hfz31_1
              try clear hfz32_0 hfz32_1 hfz32_2 hfz32_3
              try clear hfz33_0 hfz33_1 hfz33_2 hfz33_3
              try clear hfz36_0 hfz36_1
              try clear hfz37_0 hfz37_1 hfz37_2 hfz37_3
              try clear hfz40_0 hfz40_1
              try clear hfz41_0 hfz41_1 hfz41_2 hfz41_3
              try clear hfz47_0 hfz47_1 hfz47_2 hfz47_3
              try clear hfz49_0 hfz49_1 hfz49_2 hfz49_3
              try clear hfz51_0 hfz51_1 hfz51_2 hfz51_3
              try clear hfz52_0 hfz52_1 hfz52_2 hfz52_3
              try clear hfz53_0 hfz53_1 hfz53_2 hfz53_3
              try clear hfz54_0 hfz54_1 hfz54_2 hfz54_3
              try clear hfz6_0 hfz6_1 hfz6_2 hfz6_3
              try clear hfz7_0 hfz7_1 hfz7_2 hfz7_3
              try clear hx11003_0
              try clear hx11003_1
              try clear hx11006_0
              try clear hx11006_1
              try clear hx11007_0
              try clear hx11007_1
              try clear hx11009_0
              try clear hx11009_1
              try clear hx11010_0
              try clear hx11010_1
              try clear hx11011_0
              try clear hx11011_1
              try clear p1
              try clear p11
              try clear p11003
              try clear p11006
              try clear p11007
              try clear p11009
              try clear p11010
              try clear p11011
              try clear p2
              try clear p6
              try clear q1
              try clear q11
              try clear q11003
              try clear q11006
              try clear q11007
              try clear q11009
              try clear q11010
              try clear q11011
              obtain ⟨x5_5, x9_5, rfl, rfl, HA, HK5, BK11001, HB⟩ := hrel
              cases gk with
              | zero => exact absurd HA.out (by simp [customsref08_Good.l2])
              | succ k5 =>
               have H := HA.out
               clear HA
               simp only [customsref08_Good.l2] at H
               by_cases c55 : x9_5 < (l0_1.length : Int)
               ·
                rw [if_pos c55] at H
                have c55b0 : decide (x9_5 < (l0_1.length : Int)) = true := decide_eq_true c55
                clear c55
                by_cases c56 : x5_5 = true
                ·
                 subst c56
                 have H1 : (customsref08_Good.l2 k5 0 0 true (wrap64 (x9_5 + 1)) l0_0 l0_1 l0_2 a0_3) = some r := by rw [if_pos rfl] at H; exact H
                 clear H
                 have H := H1
                 clear H1
                 have H' := Aside0.mk H
                 clear H
                 obtain ⟨hcz57_0, hcz57_1, hcz57_2, hcz57_3, hfz57_0, hfz57_1, hfz57_2, hfz57_3⟩ := bk4 BK11001.out
                 go_wp2
                 repeat (go_quiet (fail); try go_wp2)
                 go_roundg k5
                 case measure => have := HJ1.out; have := HJ8.out; have := HK3.out; have := HK4.out; have := HK5.out; omega
                 case rel => exact ⟨(true), (wrap64 (x9_5 + 1)), rls, rls, H', ⟨by have := HJ1.out; have := HJ8.out; have := HK3.out; have := HK4.out; have := HK5.out; omega⟩, ⟨blk_ext BK11001.out⟩, ⟨below_extB HB.out⟩⟩
                ·
                 replace c56 := Bool.eq_false_iff.mpr c56
                 subst c56
                 have H1 : (if 0 ≤ x9_5 then (if ((rd_T36 l0_1 x9_5).f1) < 1 then (customsref08_Good.l2 k5 0 0 true (wrap64 (x9_5 + 1)) l0_0 l0_1 l0_2 a0_3) else (customsref08_Good.l2 k5 0 0 (decide (((rd_T36 l0_1 x9_5).f1) > 1000000)) (wrap64 (x9_5 + 1)) l0_0 l0_1 l0_2 a0_3)) else (none)) = some r := by rw [if_neg (show ¬ (false = true) by decide)] at H; exact H
                 clear H
                 have H := H1
                 clear H1
                 replace H := if_some H; obtain ⟨c58, H⟩ := H
                 have c58b0 : decide (0 ≤ x9_5) = true := decide_eq_true c58
                 clear c58
                 by_cases c59 : ((rd_T36 l0_1 x9_5).f1) < 1
                 ·
                  rw [if_pos c59] at H
                  have c59b0 : decide (((rd_T36 l0_1 x9_5).f1) < 1) = true := decide_eq_true c59
                  clear c59
                  have H' := Aside0.mk H
                  clear H
                  obtain ⟨hcz60_0, hcz60_1, hcz60_2, hcz60_3, hfz60_0, hfz60_1, hfz60_2, hfz60_3⟩ := bk4 BK11001.out
                  have p11012 : 0 ≤ (x9_5 : Int) := odt
                  have q11012 : x9_5 < (l0_1.length : Int) := odt
                  obtain ⟨ad11012, e11012, hx11012_0, hx11012_1⟩ := at_T36 HR0_1.out x9_5 p11012 q11012
                  cases e11012
                  (try replace hx11012_0 := (HB.out.cell (World.block_lt_of_cell? w _ hx11012_0)).trans hx11012_0)
                  (try replace hx11012_1 := (HB.out.cell (World.block_lt_of_cell? w _ hx11012_1)).trans hx11012_1)
                  replace p11012 := eq_true p11012
                  replace q11012 := eq_true q11012
                  go_wp2
                  repeat (go_quiet (fail); try go_wp2)
                  go_roundg k5
                  case measure => have := HJ1.out; have := HJ8.out; have := HK3.out; have := HK4.out; have := HK5.out; omega
                  case rel => exact ⟨(true), (wrap64 (x9_5 + 1)), rls, rls, H', ⟨by have := HJ1.out; have := HJ8.out; have := HK3.out; have := HK4.out; have := HK5.out; omega⟩, ⟨blk_ext BK11001.out⟩, ⟨below_extB HB.out⟩⟩
                 ·
                  rw [if_neg c59] at H
                  have c59b0 : decide (((rd_T36 l0_1 x9_5).f1) < 1) = false := decide_eq_false c59
                  clear c59
                  have H' := Aside0.mk H
                  clear H
                  obtain ⟨hcz61_0, hcz61_1, hcz61_2, hcz61_3, hfz61_0, hfz61_1, hfz61_2, hfz61_3⟩ := bk4 BK11001.out
                  have p11012 : 0 ≤ (x9_5 : Int) := odt
                  have q11012 : x9_5 < (l0_1.length : Int) := odt
                  obtain ⟨ad11012, e11012, hx11012_0, hx11012_1⟩ := at_T36 HR0_1.out x9_5 p11012 q11012
                  cases e11012
                  (try replace hx11012_0 := (HB.out.cell (World.block_lt_of_cell? w _ hx11012_0)).trans hx11012_0)
                  (try replace hx11012_1 := (HB.out.cell (World.block_lt_of_cell? w _ hx11012_1)).trans hx11012_1)
                  replace p11012 := eq_true p11012
                  replace q11012 := eq_true q11012
                  have p11013 : 0 ≤ (x9_5 : Int) := odt
                  have q11013 : x9_5 < (l0_1.length : Int) := odt
                  obtain ⟨ad11013, e11013, hx11013_0, hx11013_1⟩ := at_T36 HR0_1.out x9_5 p11013 q11013
                  obtain rfl : ad11012 = ad11013 := (by injection e11013)
                  (try replace hx11013_0 := (HB.out.cell (World.block_lt_of_cell? w _ hx11013_0)).trans hx11013_0)
                  (try replace hx11013_1 := (HB.out.cell (World.block_lt_of_cell? w _ hx11013_1)).trans hx11013_1)
                  replace p11013 := eq_true p11013
                  replace q11013 := eq_true q11013
                  go_wp2
                  repeat (go_quiet (fail); try go_wp2)
                  go_roundg k5
                  case measure => have := HJ1.out; have := HJ8.out; have := HK3.out; have := HK4.out; have := HK5.out; omega
                  case rel => exact ⟨(decide (((rd_T36 l0_1 x9_5).f1) > 1000000)), (wrap64 (x9_5 + 1)), rls, rls, H', ⟨by have := HJ1.out; have := HJ8.out; have := HK3.out; have := HK4.out; have := HK5.out; omega⟩, ⟨blk_ext BK11001.out⟩, ⟨below_extB HB.out⟩⟩
               ·
                rw [if_neg c55] at H
                have c55b0 : decide (x9_5 < (l0_1.length : Int)) = false := decide_eq_false c55
                clear c55
                by_cases c62 : x5_5 = true
                ·
                 subst c62
                 have H1 : (some 2) = some r := by rw [if_pos rfl] at H; exact H
                 clear H
                 have H := H1
                 clear H1
                 obtain rfl := Option.some.inj H
                 obtain ⟨hcz63_0, hcz63_1, hcz63_2, hcz63_3, hfz63_0, hfz63_1, hfz63_2, hfz63_3⟩ := bk4 BK11001.out
                 go_wp2
                 repeat (go_quiet (fail); try go_wp2)
                 go_ret
                 exact ⟨by first | rfl | (simp [errW_none, errW_some] <;> rfl) | (simp [*, errW_none, errW_some] <;> rfl), below_extB HB.out⟩
                ·
                 replace c62 := Bool.eq_false_iff.mpr c62
                 subst c62
                 have H1 : (customsref08_Good.l3 k5 0 0 0 l0_0 l0_1 l0_2 a0_3) = some r := by rw [if_neg (show ¬ (false = true) by decide)] at H; exact H
                 clear H
                 have H := H1
                 clear H1
                 have H' := Aside0.mk H
                 clear H
                 obtain ⟨hcz64_0, hcz64_1, hcz64_2, hcz64_3, hfz64_0, hfz64_1, hfz64_2, hfz64_3⟩ := bk4 BK11001.out
                 go_wp2
                 repeat (go_quiet (fail); try go_wp2)
                 go_loopg [3, 10] k5 (fun kq v3 v10 w' => ∃ (x3_6 : Int) (x10_6 : Int), v3 = .int .i64 x3_6 ∧ v10 = .int .i64 x10_6 ∧ Aside0 (customsref08_Good.l3 kq x3_6 0 x10_6 l0_0 l0_1 l0_2 a0_3 = some r) ∧ Aside0 (kq ≤ k5) ∧ Aside0 (w'.heap[gb11001]? = some (.cells #[(.slice A0_0 l0_0.length c0_0), (.slice A0_1 l0_1.length c0_1), (.slice A0_2 l0_2.length c0_2), .bool a0_3] 26 (0, 0))) ∧ Aside0 (Below w.heap.size w w'))
                 case atStart => exact ⟨(0), (0), rls, rls, H', ⟨Nat.le_refl _⟩, ⟨blk_ext BK11001.out⟩, ⟨below_extB HB.out⟩⟩
                 case round =>
                  clear H'
                  try clear c1
                  try clear p1
                  try clear q1
                  try clear hx1
                  try clear c2
                  try clear p2
                  try clear c3
                  try clear c4
                  try clear c5
                  try clear c6
                  try clear p6
                  try clear c8
                  try clear c10
                  try clear c10b0
                  try clear c10b1
                  try clear c11
                  try clear p11
                  try clear q11
                  try clear hx11
                  try clear c13
                  try clear c14
                  try clear c14b0
                  try clear c15
                  try clear c15b0
                  try clear c17
                  try clear c18
                  try clear c18b0
                  try clear c20
                  try clear c20b0
                  try clear c21
                  try clear c21b0
                  try clear c22
                  try clear c22b0
                  try clear c25
                  try clear c30
                  try clear c35
                  try clear c39
                  try clear c42
                  try clear c42b0
                  try clear c43
                  try clear c43b0
                  try clear c45
                  try clear c46
                  try clear c46b0
                  try clear c46b1
                  try clear c46b2
                  try clear c48
                  try clear c50
                  try clear c50b0
                  try clear c55
                  try clear c55b0
                  try clear c56
                  try clear c58
                  try clear c58b0
                  try clear c59
                  try clear c59b0
                  try clear c62
                  try clear p64
                  try clear hcz11_0 hcz11_1 hcz11_2 hcz11_3
                  try clear hcz12_0 hcz12_1 hcz12_2 hcz12_3
                  try clear hcz23_0 hcz23_1 hcz23_2 hcz23_3
                  try clear hcz26_0 hcz26_1
                  try clear hcz27_0 hcz27_1 hcz27_2 hcz27_3
                  try clear hcz28_0 hcz28_1 hcz28_2 hcz28_3
                  try clear hcz31_0 hcz31_1
                  try clear hcz32_0 hcz32_1 hcz32_2 hcz32_3
                  try clear hcz33_0 hcz33_1 hcz33_2 hcz33_3
                  try clear hcz36_0 hcz36_1
                  try clear hcz37_0 hcz37_1 hcz37_2 hcz37_3
                  try clear hcz40_0 hcz40_1
                  try clear hcz41_0 hcz41_1 hcz41_2 hcz41_3
                  try clear hcz47_0 hcz47_1 hcz47_2 hcz47_3
                  try clear hcz49_0 hcz49_1 hcz49_2 hcz49_3
                  try clear hcz51_0 hcz51_1 hcz51_2 hcz51_3
                  try clear hcz52_0 hcz52_1 hcz52_2 hcz52_3
                  try clear hcz53_0 hcz53_1 hcz53_2 hcz53_3
                  try clear hcz54_0 hcz54_1 hcz54_2 hcz54_3
                  try clear hcz57_0 hcz57_1 hcz57_2 hcz57_3
                  try clear hcz60_0 hcz60_1 hcz60_2 hcz60_3
                  try clear hcz61_0 hcz61_1 hcz61_2 hcz61_3
                  try clear hcz63_0 hcz63_1 hcz63_2 hcz63_3
                  try clear hcz64_0 hcz64_1 hcz64_2 hcz64_3
                  try clear hcz6_0 hcz6_1 hcz6_2 hcz6_3
                  try clear hcz7_0 hcz7_1 hcz7_2 hcz7_3
                  try clear hfz11_0 hfz11_1 hfz11_2 hfz11_3
                  try clear hfz12_0 hfz12_1 hfz12_2 hfz12_3
                  try clear hfz23_0 hfz23_1 hfz23_2 hfz23_3
                  try clear hfz26_0 hfz26_1
                  try clear hfz27_0 hfz27_1 hfz27_2 hfz27_3
                  try clear hfz28_0 hfz28_1 hfz28_2 hfz28_3
                  try clear hfz31_0 hfz31_1
                  try clear hfz32_0 hfz32_1 hfz32_2 hfz32_3
                  try clear hfz33_0 hfz33_1 hfz33_2 hfz33_3
                  try clear hfz36_0 hfz36_1
                  try clear hfz37_0 hfz37_1 hfz37_2 hfz37_3
                  try clear hfz40_0 hfz40_1
                  try clear hfz41_0 hfz41_1 hfz41_2 hfz41_3
                  try clear hfz47_0 hfz47_1 hfz47_2 hfz47_3
                  try clear hfz49_0 hfz49_1 hfz49_2 hfz49_3
                  try clear hfz51_0 hfz51_1 hfz51_2 hfz51_3
                  try clear hfz52_0 hfz52_1 hfz52_2 hfz52_3
                  try clear hfz53_0 hfz53_1 hfz53_2 hfz53_3
                  try clear hfz54_0 hfz54_1 hfz54_2 hfz54_3
                  try clear hfz57_0 hfz57_1 hfz57_2 hfz57_3
                  try clear hfz60_0 hfz60_1 hfz60_2 hfz60_3
                  try clear hfz61_0 hfz61_1 hfz61_2 hfz61_3
                  try clear hfz63_0 hfz63_1 hfz63_2 hfz63_3
                  try clear hfz64_0 hfz64_1 hfz64_2 hfz64_3
                  try clear hfz6_0 hfz6_1 hfz6_2 hfz6_3
                  try clear hfz7_0 hfz7_1 hfz7_2 hfz7_3
                  try clear hx11003_0
                  try clear hx11003_1
                  try clear hx11006_0
                  try clear hx11006_1
                  try clear hx11007_0
                  try clear hx11007_1
                  try clear hx11009_0
                  try clear hx11009_1
                  try clear hx11010_0
                  try clear hx11010_1
                  try clear hx11011_0
                  try clear hx11011_1
                  try clear hx11012_0
                  try clear hx11012_1
                  try clear hx11013_0
                  try clear hx11013_1
                  try clear p1
                  try clear p11
                  try clear p11003
                  try clear p11006
                  try clear p11007
                  try clear p11009
                  try clear p11010
                  try clear p11011
                  try clear p11012
                  try clear p11013
                  try clear p2
                  try clear p6
                  try clear q1
                  try clear q11
                  try clear q11003
                  try clear q11006
                  try clear q11007
                  try clear q11009
                  try clear q11010
                  try clear q11011
                  try clear q11012
                  try clear q11013
                  obtain ⟨x3_6, x10_6, rfl, rfl, HA, HK6, BK11001, HB⟩ := hrel
                  cases gk with
                  | zero => exact absurd HA.out (by simp [customsref08_Good.l3])
                  | succ k6 =>
                   have H := HA.out
                   clear HA
                   simp only [customsref08_Good.l3] at H
                   by_cases c65 : x10_6 < (l0_1.length : Int)
                   ·
                    rw [if_pos c65] at H
                    have c65b0 : decide (x10_6 < (l0_1.length : Int)) = true := decide_eq_true c65
                    clear c65
                    replace H := if_some H; obtain ⟨c66, H⟩ := H
                    have c66b0 : decide (0 ≤ x10_6) = true := decide_eq_true c66
                    clear c66
                    have H' := Aside0.mk H
                    clear H
                    obtain ⟨hcz67_0, hcz67_1, hcz67_2, hcz67_3, hfz67_0, hfz67_1, hfz67_2, hfz67_3⟩ := bk4 BK11001.out
                    have p11014 : 0 ≤ (x10_6 : Int) := odt
                    have q11014 : x10_6 < (l0_1.length : Int) := odt
                    obtain ⟨ad11014, e11014, hx11014_0, hx11014_1⟩ := at_T36 HR0_1.out x10_6 p11014 q11014
                    cases e11014
                    (try replace hx11014_0 := (HB.out.cell (World.block_lt_of_cell? w _ hx11014_0)).trans hx11014_0)
                    (try replace hx11014_1 := (HB.out.cell (World.block_lt_of_cell? w _ hx11014_1)).trans hx11014_1)
                    replace p11014 := eq_true p11014
                    replace q11014 := eq_true q11014
                    go_wp2
                    repeat (go_quiet (fail); try go_wp2)
                    go_roundg k6
                    case measure => have := HJ1.out; have := HJ8.out; have := HK3.out; have := HK4.out; have := HK5.out; have := HK6.out; omega
                    case rel => exact ⟨(wrap64 (x3_6 + ((rd_T36 l0_1 x10_6).f1))), (wrap64 (x10_6 + 1)), rls, rls, H', ⟨by have := HJ1.out; have := HJ8.out; have := HK3.out; have := HK4.out; have := HK5.out; have := HK6.out; omega⟩, ⟨blk_ext BK11001.out⟩, ⟨below_extB HB.out⟩⟩
                   ·
                    rw [if_neg c65] at H
                    have c65b0 : decide (x10_6 < (l0_1.length : Int)) = false := decide_eq_false c65
                    clear c65
                    have H' := Aside0.mk H
                    clear H
                    obtain ⟨hcz68_0, hcz68_1, hcz68_2, hcz68_3, hfz68_0, hfz68_1, hfz68_2, hfz68_3⟩ := bk4 BK11001.out
                    go_wp2
                    repeat (go_quiet (fail); try go_wp2)
                    go_loopg [4, 11] k6 (fun kq v4 v11 w' => ∃ (x4_7 : Int) (x11_7 : Int), v4 = .int .i64 x4_7 ∧ v11 = .int .i64 x11_7 ∧ Aside0 (customsref08_Good.l4 kq x3_6 x4_7 x11_7 l0_0 l0_1 l0_2 a0_3 = some r) ∧ Aside0 (kq ≤ k6) ∧ Aside0 (w'.heap[gb11001]? = some (.cells #[(.slice A0_0 l0_0.length c0_0), (.slice A0_1 l0_1.length c0_1), (.slice A0_2 l0_2.length c0_2), .bool a0_3] 26 (0, 0))) ∧ Aside0 (Below w.heap.size w w'))
                    case atStart => exact ⟨(0), (0), rls, rls, H', ⟨Nat.le_refl _⟩, ⟨blk_ext BK11001.out⟩, ⟨below_extB HB.out⟩⟩
                    case round =>
                     clear H'
                     try clear c1
                     try clear p1
                     try clear q1
                     try clear hx1
                     try clear c2
                     try clear p2
                     try clear c3
                     try clear c4
                     try clear c5
                     try clear c6
                     try clear p6
                     try clear c8
                     try clear c10
                     try clear c10b0
                     try clear c10b1
                     try clear c11
                     try clear p11
                     try clear q11
                     try clear hx11
                     try clear c13
                     try clear c14
                     try clear c14b0
                     try clear c15
                     try clear c15b0
                     try clear c17
                     try clear c18
                     try clear c18b0
                     try clear c20
                     try clear c20b0
                     try clear c21
                     try clear c21b0
                     try clear c22
                     try clear c22b0
                     try clear c25
                     try clear c30
                     try clear c35
                     try clear c39
                     try clear c42
                     try clear c42b0
                     try clear c43
                     try clear c43b0
                     try clear c45
                     try clear c46
                     try clear c46b0
                     try clear c46b1
                     try clear c46b2
                     try clear c48
                     try clear c50
                     try clear c50b0
                     try clear c55
                     try clear c55b0
                     try clear c56
                     try clear c58
                     try clear c58b0
                     try clear c59
                     try clear c59b0
                     try clear c62
                     try clear p64
                     try clear c65
                     try clear c65b0
                     try clear c66
                     try clear c66b0
                     try clear hcz11_0 hcz11_1 hcz11_2 hcz11_3
                     try clear hcz12_0 hcz12_1 hcz12_2 hcz12_3
                     try clear hcz23_0 hcz23_1 hcz23_2 hcz23_3
                     try clear hcz26_0 hcz26_1
                     try clear hcz27_0 hcz27_1 hcz27_2 hcz27_3
                     try clear hcz28_0 hcz28_1 hcz28_2 hcz28_3
                     try clear hcz31_0 hcz31_1
                     try clear hcz32_0 hcz32_1 hcz32_2 hcz32_3
                     try clear hcz33_0 hcz33_1 hcz33_2 hcz33_3
                     try clear hcz36_0 hcz36_1
                     try clear hcz37_0 hcz37_1 hcz37_2 hcz37_3
                     try clear hcz40_0 hcz40_1
                     try clear hcz41_0 hcz41_1 hcz41_2 hcz41_3
                     try clear hcz47_0 hcz47_1 hcz47_2 hcz47_3
                     try clear hcz49_0 hcz49_1 hcz49_2 hcz49_3
                     try clear hcz51_0 hcz51_1 hcz51_2 hcz51_3
                     try clear hcz52_0 hcz52_1 hcz52_2 hcz52_3
                     try clear hcz53_0 hcz53_1 hcz53_2 hcz53_3
                     try clear hcz54_0 hcz54_1 hcz54_2 hcz54_3
                     try clear hcz57_0 hcz57_1 hcz57_2 hcz57_3
                     try clear hcz60_0 hcz60_1 hcz60_2 hcz60_3
                     try clear hcz61_0 hcz61_1 hcz61_2 hcz61_3
                     try clear hcz63_0 hcz63_1 hcz63_2 hcz63_3
                     try clear hcz64_0 hcz64_1 hcz64_2 hcz64_3
                     try clear hcz67_0 hcz67_1 hcz67_2 hcz67_3
                     try clear hcz68_0 hcz68_1 hcz68_2 hcz68_3
                     try clear hcz6_0 hcz6_1 hcz6_2 hcz6_3
                     try clear hcz7_0 hcz7_1 hcz7_2 hcz7_3
                     try clear hfz11_0 hfz11_1 hfz11_2 hfz11_3
                     try clear hfz12_0 hfz12_1 hfz12_2 hfz12_3
                     try clear hfz23_0 hfz23_1 hfz23_2 hfz23_3
                     try clear hfz26_0 hfz26_1
                     try clear hfz27_0 hfz27_1 hfz27_2 hfz27_3
                     try clear hfz28_0 hfz28_1 hfz28_2 hfz28_3
                     try clear hfz31_0 hfz31_1
                     try clear hfz32_0 hfz32_1 hfz32_2 hfz32_3
                     try clear hfz33_0 hfz33_1 hfz33_2 hfz33_3
                     try clear hfz36_0 hfz36_1
                     try clear hfz37_0 hfz37_1 hfz37_2 hfz37_3
                     try clear hfz40_0 hfz40_1
                     try clear hfz41_0 hfz41_1 hfz41_2 hfz41_3
                     try clear hfz47_0 hfz47_1 hfz47_2 hfz47_3
                     try clear hfz49_0 hfz49_1 hfz49_2 hfz49_3
                     try clear hfz51_0 hfz51_1 hfz51_2 hfz51_3
                     try clear hfz52_0 hfz52_1 hfz52_2 hfz52_3
                     try clear hfz53_0 hfz53_1 hfz53_2 hfz53_3
                     try clear hfz54_0 hfz54_1 hfz54_2 hfz54_3
                     try clear hfz57_0 hfz57_1 hfz57_2 hfz57_3
                     try clear hfz60_0 hfz60_1 hfz60_2 hfz60_3
                     try clear hfz61_0 hfz61_1 hfz61_2 hfz61_3
                     try clear hfz63_0 hfz63_1 hfz63_2 hfz63_3
                     try clear hfz64_0 hfz64_1 hfz64_2 hfz64_3
                     try clear hfz67_0 hfz67_1 hfz67_2 hfz67_3
                     try clear hfz68_0 hfz68_1 hfz68_2 hfz68_3
                     try clear hfz6_0 hfz6_1 hfz6_2 hfz6_3
                     try clear hfz7_0 hfz7_1 hfz7_2 hfz7_3
                     try clear hx11003_0
                     try clear hx11003_1
                     try clear hx11006_0
                     try clear hx11006_1
                     try clear hx11007_0
                     try clear hx11007_1
                     try clear hx11009_0
                     try clear hx11009_1
                     try clear hx11010_0
                     try clear hx11010_1
                     try clear hx11011_0
                     try clear hx11011_1
                     try clear hx11012_0
                     try clear hx11012_1
                     try clear hx11013_0
                     try clear hx11013_1
                     try clear hx11014_0
                     try clear hx11014_1
                     try clear p1
                     try clear p11
                     try clear p11003
                     try clear p11006
                     try clear p11007
                     try clear p11009
                     try clear p11010
                     try clear p11011
                     try clear p11012
                     try clear p11013
                     try clear p11014
                     try clear p2
                     try clear p6
                     try clear p64
                     try clear q1
                     try clear q11
                     try clear q11003
                     try clear q11006
                     try clear q11007
                     try clear q11009
                     try clear q11010
                     try clear q11011
                     try clear q11012
                     try clear q11013
                     try clear q11014
                     obtain ⟨x4_7, x11_7, rfl, rfl, HA, HK7, BK11001, HB⟩ := hrel
                     cases gk with
                     | zero => exact absurd HA.out (by simp [customsref08_Good.l4])
                     | succ k7 =>
                      have H := HA.out
                      clear HA
                      simp only [customsref08_Good.l4] at H
                      by_cases c69 : x11_7 < (l0_2.length : Int)
                      ·
                       rw [if_pos c69] at H
                       have c69b0 : decide (x11_7 < (l0_2.length : Int)) = true := decide_eq_true c69
                       clear c69
                       replace H := if_some H; obtain ⟨c70, H⟩ := H
                       have c70b0 : decide (0 ≤ x11_7) = true := decide_eq_true c70
                       clear c70
                       have H' := Aside0.mk H
                       clear H
                       obtain ⟨hcz71_0, hcz71_1, hcz71_2, hcz71_3, hfz71_0, hfz71_1, hfz71_2, hfz71_3⟩ := bk4 BK11001.out
                       have p11015 : 0 ≤ (x11_7 : Int) := odt
                       have q11015 : x11_7 < (l0_2.length : Int) := odt
                       obtain ⟨ad11015, A11015_0, c11015_0, e11015, hx11015_0, hx11015_1, hl11015_0, hi11015_0⟩ := at_T38 HR0_2.out x11_7 p11015 q11015
                       cases e11015
                       (try replace hx11015_0 := (HB.out.cell (World.block_lt_of_cell? w _ hx11015_0)).trans hx11015_0)
                       (try replace hx11015_1 := (HB.out.cell (World.block_lt_of_cell? w _ hx11015_1)).trans hx11015_1)
                       have HR11015_0 := Aside0.mk hi11015_0
                       have HC11015_0 := Aside0.mk hl11015_0
                       clear hi11015_0 hl11015_0
                       replace p11015 := eq_true p11015
                       replace q11015 := eq_true q11015
                       go_wp2
                       repeat (go_quiet (fail); try go_wp2)
                       go_roundg k7
                       case measure => have := HJ1.out; have := HJ8.out; have := HK3.out; have := HK4.out; have := HK5.out; have := HK6.out; have := HK7.out; omega
                       case rel => exact ⟨(wrap64 (x4_7 + ((rd_T38 l0_2 x11_7).f1))), (wrap64 (x11_7 + 1)), rls, rls, H', ⟨by have := HJ1.out; have := HJ8.out; have := HK3.out; have := HK4.out; have := HK5.out; have := HK6.out; have := HK7.out; omega⟩, ⟨blk_ext BK11001.out⟩, ⟨below_extB HB.out⟩⟩
                      ·
                       rw [if_neg c69] at H
                       have c69b0 : decide (x11_7 < (l0_2.length : Int)) = false := decide_eq_false c69
                       clear c69
                       by_cases c72 : (l0_1.length : Int) > 0
                       ·
                        rw [if_pos c72] at H
                        have c72b0 : decide (0 < (l0_1.length : Int)) = true := decide_eq_true c72
                        have c72b1 : decide (0 < l0_1.length) = true := decide_eq_true (by omega)
                        have c72b9 : (0 < l0_1.length) = True := eq_true (of_decide_eq_true c72b1)
                        clear c72
                        by_cases c73 : x3_6 = 1000000
                        ·
                         rw [if_pos c73] at H
                         have c73b0 : (x3_6 == 1000000) = true := beq_iff_eq.mpr c73
                         have c73b1 : (x3_6 != 1000000) = false := bne_eq_false_iff_eq.mpr c73
                         clear c73
                         by_cases c74 : (l0_2.length : Int) > 0
                         ·
                          rw [if_pos c74] at H
                          have c74b0 : decide (0 < (l0_2.length : Int)) = true := decide_eq_true c74
                          have c74b1 : decide (0 < l0_2.length) = true := decide_eq_true (by omega)
                          have c74b9 : (0 < l0_2.length) = True := eq_true (of_decide_eq_true c74b1)
                          clear c74
                          by_cases c75 : x4_7 = 1000000
                          ·
                           rw [if_pos c75] at H
                           have c75b0 : (x4_7 == 1000000) = true := beq_iff_eq.mpr c75
                           have c75b1 : (x4_7 != 1000000) = false := bne_eq_false_iff_eq.mpr c75
                           clear c75
                           obtain rfl := Option.some.inj H
                           obtain ⟨hcz76_0, hcz76_1, hcz76_2, hcz76_3, hfz76_0, hfz76_1, hfz76_2, hfz76_3⟩ := bk4 BK11001.out
                           go_wp2
                           repeat (go_quiet (fail); try go_wp2)
                           go_ret
                           exact ⟨by first | rfl | (simp [errW_none, errW_some] <;> rfl) | (simp [*, errW_none, errW_some] <;> rfl), below_extB HB.out⟩
                          ·
                           rw [if_neg c75] at H
                           have c75b0 : (x4_7 == 1000000) = false := beq_eq_false_iff_ne.mpr c75
                           have c75b1 : (x4_7 != 1000000) = true := bne_iff_ne.mpr c75
                           obtain rfl := Option.some.inj H
                           obtain ⟨hcz77_0, hcz77_1, hcz77_2, hcz77_3, hfz77_0, hfz77_1, hfz77_2, hfz77_3⟩ := bk4 BK11001.out
                           go_wp2
                           repeat (go_quiet (fail); try go_wp2)
                           go_ret
                           exact ⟨by first | rfl | (simp [errW_none, errW_some] <;> rfl) | (simp [*, errW_none, errW_some] <;> rfl), below_extB HB.out⟩
                         ·
                          rw [if_neg c74] at H
                          have c74b0 : decide (0 < (l0_2.length : Int)) = false := decide_eq_false c74
                          have c74b1 : decide (0 < l0_2.length) = false := decide_eq_false (by omega)
                          have c74b9 : (0 < l0_2.length) = False := eq_false (of_decide_eq_false c74b1)
                          clear c74
                          obtain rfl := Option.some.inj H
                          obtain ⟨hcz78_0, hcz78_1, hcz78_2, hcz78_3, hfz78_0, hfz78_1, hfz78_2, hfz78_3⟩ := bk4 BK11001.out
                          go_wp2
                          repeat (go_quiet (fail); try go_wp2)
                          go_ret
                          exact ⟨by first | rfl | (simp [errW_none, errW_some] <;> rfl) | (simp [*, errW_none, errW_some] <;> rfl), below_extB HB.out⟩
                        ·
                         rw [if_neg c73] at H
                         have c73b0 : (x3_6 == 1000000) = false := beq_eq_false_iff_ne.mpr c73
                         have c73b1 : (x3_6 != 1000000) = true := bne_iff_ne.mpr c73
                         obtain rfl := Option.some.inj H
                         obtain ⟨hcz79_0, hcz79_1, hcz79_2, hcz79_3, hfz79_0, hfz79_1, hfz79_2, hfz79_3⟩ := bk4 BK11001.out
                         go_wp2
                         repeat (go_quiet (fail); try go_wp2)
                         go_ret
                         exact ⟨by first | rfl | (simp [errW_none, errW_some] <;> rfl) | (simp [*, errW_none, errW_some] <;> rfl), below_extB HB.out⟩
                       ·
                        rw [if_neg c72] at H
                        have c72b0 : decide (0 < (l0_1.length : Int)) = false := decide_eq_false c72
                        have c72b1 : decide (0 < l0_1.length) = false := decide_eq_false (by omega)
                        have c72b9 : (0 < l0_1.length) = False := eq_false (of_decide_eq_false c72b1)
                        clear c72
                        by_cases c80 : (l0_2.length : Int) > 0
                        ·
                         rw [if_pos c80] at H
                         have c80b0 : decide (0 < (l0_2.length : Int)) = true := decide_eq_true c80
                         have c80b1 : decide (0 < l0_2.length) = true := decide_eq_true (by omega)
                         have c80b9 : (0 < l0_2.length) = True := eq_true (of_decide_eq_true c80b1)
                         clear c80
                         by_cases c81 : x4_7 = 1000000
                         ·
                          rw [if_pos c81] at H
                          have c81b0 : (x4_7 == 1000000) = true := beq_iff_eq.mpr c81
                          have c81b1 : (x4_7 != 1000000) = false := bne_eq_false_iff_eq.mpr c81
                          clear c81
                          obtain rfl := Option.some.inj H
                          obtain ⟨hcz82_0, hcz82_1, hcz82_2, hcz82_3, hfz82_0, hfz82_1, hfz82_2, hfz82_3⟩ := bk4 BK11001.out
                          go_wp2
                          repeat (go_quiet (fail); try go_wp2)
                          go_ret
                          exact ⟨by first | rfl | (simp [errW_none, errW_some] <;> rfl) | (simp [*, errW_none, errW_some] <;> rfl), below_extB HB.out⟩
                         ·
                          rw [if_neg c81] at H
                          have c81b0 : (x4_7 == 1000000) = false := beq_eq_false_iff_ne.mpr c81
                          have c81b1 : (x4_7 != 1000000) = true := bne_iff_ne.mpr c81
                          obtain rfl := Option.some.inj H
                          obtain ⟨hcz83_0, hcz83_1, hcz83_2, hcz83_3, hfz83_0, hfz83_1, hfz83_2, hfz83_3⟩ := bk4 BK11001.out
                          go_wp2
                          repeat (go_quiet (fail); try go_wp2)
                          go_ret
                          exact ⟨by first | rfl | (simp [errW_none, errW_some] <;> rfl) | (simp [*, errW_none, errW_some] <;> rfl), below_extB HB.out⟩
                        ·
                         rw [if_neg c80] at H
                         have c80b0 : decide (0 < (l0_2.length : Int)) = false := decide_eq_false c80
                         have c80b1 : decide (0 < l0_2.length) = false := decide_eq_false (by omega)
                         have c80b9 : (0 < l0_2.length) = False := eq_false (of_decide_eq_false c80b1)
                         clear c80
                         obtain rfl := Option.some.inj H
                         obtain ⟨hcz84_0, hcz84_1, hcz84_2, hcz84_3, hfz84_0, hfz84_1, hfz84_2, hfz84_3⟩ := bk4 BK11001.out
                         go_wp2
                         repeat (go_quiet (fail); try go_wp2)
                         go_ret
                         exact ⟨by first | rfl | (simp [errW_none, errW_some] <;> rfl) | (simp [*, errW_none, errW_some] <;> rfl), below_extB HB.out⟩

end Go.Proofs.YtoolggpfgadjlaaDoor.Z
