/- Printed: a Go function in plain Lean, and that its call does what it says. Conditions: those each theorem states. -/
import Derived.Test.YtoolggpfgadjlaaDoorZ0
import Derived.Test.YtoolggpfgadjlaaDoorZEq36
import Derived.Test.YtoolggpfgadjlaaDoorZcustomsref08SameStrings
import Derived.Test.YtoolggpfgadjlaaDoorZcustomsref08SameParts
namespace Go.Proofs.YtoolggpfgadjlaaDoor.Z
open Go.RowKit Go.Proofs.YtoolggpfgadjlaaDoorW.PrintWords Go.Proofs.YtoolggpfgadjlaaDoorW.PrintLast Go.Proofs.YtoolggpfgadjlaaDoorW.PrintMore
attribute [local go_sem high] str_leq str_geq str_gtr   -- strings
attribute [local go_sem] max2_int min2_int max_two min_two max_three min_three max_four min_four   -- for this text's walks alone
set_option linter.unusedVariables false
set_option linter.unusedSimpArgs false

attribute [local go_sem high] eqA36
/-! ### customsref08_SameGood: function 17 -/
mutual
def customsref08_SameGood.j0 : Nat → Bool → List ByteArray → List (S36) → List (S38) → Bool → List ByteArray → List (S36) → List (S38) → Bool → Option (Bool)
 | 0, _, _, _, _, _, _, _, _, _ => none
 | k + 1, x27, x17002000, x17002001, x17002002, x17002003, x17003000, x17003001, x17003002, x17003003 => if x27 = true then (some false) else (customsref08_SameGood.l0 k 0 x17002000 x17002001 x17002002 x17002003 x17003000 x17003001 x17003002 x17003003)
def customsref08_SameGood.l0 : Nat → Int → List ByteArray → List (S36) → List (S38) → Bool → List ByteArray → List (S36) → List (S38) → Bool → Option (Bool)
 | 0, _, _, _, _, _, _, _, _, _ => none
 | k + 1, x5, x17002000, x17002001, x17002002, x17002003, x17003000, x17003001, x17003002, x17003003 => if x5 < (x17002001.length : Int) then (if 0 ≤ x5 then (if x5 < (x17003001.length : Int) then (if (!((((rd_T36 x17002001 x5).f0).toList) == (((rd_T36 x17003001 x5).f0).toList)) || (!(((rd_T36 x17002001 x5).f1) == ((rd_T36 x17003001 x5).f1)))) = true then (some false) else (customsref08_SameGood.l0 k (wrap64 (x5 + 1)) x17002000 x17002001 x17002002 x17002003 x17003000 x17003001 x17003002 x17003003)) else (none)) else (none)) else ((customsref08_SameParts.f k x17002002 x17003002).bind fun t17006 => (some t17006))
end
def customsref08_SameGood.f (k : Nat) (l0_0 : List ByteArray) (l0_1 : List (S36)) (l0_2 : List (S38)) (a0_3 : Bool) (l1_0 : List ByteArray) (l1_1 : List (S36)) (l1_2 : List (S38)) (a1_3 : Bool) : Option (Bool) := (customsref08_SameStrings.f k l0_0 l1_0).bind fun t17003 => (if t17003 = true then (if (a0_3 != a1_3) = true then (customsref08_SameGood.j0 k true l0_0 l0_1 l0_2 a0_3 l1_0 l1_1 l1_2 a1_3) else (customsref08_SameGood.j0 k ((l0_1.length : Int) != (l1_1.length : Int)) l0_0 l0_1 l0_2 a0_3 l1_0 l1_1 l1_2 a1_3)) else (customsref08_SameGood.j0 k true l0_0 l0_1 l0_2 a0_3 l1_0 l1_1 l1_2 a1_3))
theorem customsref08_SameGood.mono_l : ∀ k, (∀ y0 y1 y2 y3 y4 y5 y6 y7 y8, LeO (customsref08_SameGood.j0 k y0 y1 y2 y3 y4 y5 y6 y7 y8) (customsref08_SameGood.j0 (k + 1) y0 y1 y2 y3 y4 y5 y6 y7 y8)) ∧ (∀ y0 y1 y2 y3 y4 y5 y6 y7 y8, LeO (customsref08_SameGood.l0 k y0 y1 y2 y3 y4 y5 y6 y7 y8) (customsref08_SameGood.l0 (k + 1) y0 y1 y2 y3 y4 y5 y6 y7 y8))
 | 0 => ⟨fun _ _ _ _ _ _ _ _ _ r h => by simp [customsref08_SameGood.j0] at h, fun _ _ _ _ _ _ _ _ _ r h => by simp [customsref08_SameGood.l0] at h⟩
 | k + 1 => by
  obtain ⟨ih0, ih1⟩ := customsref08_SameGood.mono_l k
  refine ⟨?_, ?_⟩ <;> intros
  all_goals first | unfold customsref08_SameGood.j0 | unfold customsref08_SameGood.l0
  all_goals repeat' first
   | (with_reducible exact ih0 _ _ _ _ _ _ _ _ _)
   | (with_reducible exact ih1 _ _ _ _ _ _ _ _ _)
   | (with_reducible exact customsref08_SameParts.mono _ _ _)
   | (with_reducible exact customsref08_SameStrings.mono _ _ _)
   | (with_reducible exact LeO.refl _)
   | (with_reducible exact LeO.none _)
   | (with_reducible refine LeO.ite ?_ ?_)
   | (with_reducible refine LeO.bind ?_ (fun _ => ?_))
   | exact ih0 _ _ _ _ _ _ _ _ _
   | exact ih1 _ _ _ _ _ _ _ _ _
   | exact customsref08_SameParts.mono _ _ _
   | exact customsref08_SameStrings.mono _ _ _
   | exact LeO.none _
   | refine LeO.ite ?_ ?_
   | refine LeO.bind ?_ (fun _ => ?_)
theorem customsref08_SameGood.mono : ∀ a0 a1 a2 a3 a4 a5 a6 a7 k, LeO (customsref08_SameGood.f k a0 a1 a2 a3 a4 a5 a6 a7) (customsref08_SameGood.f (k + 1) a0 a1 a2 a3 a4 a5 a6 a7) := by
 intro a0 a1 a2 a3 a4 a5 a6 a7 k
 obtain ⟨ih0, ih1⟩ := customsref08_SameGood.mono_l k
 unfold customsref08_SameGood.f
 repeat' first
   | (with_reducible exact ih0 _ _ _ _ _ _ _ _ _)
   | (with_reducible exact ih1 _ _ _ _ _ _ _ _ _)
   | (with_reducible exact customsref08_SameParts.mono _ _ _)
   | (with_reducible exact customsref08_SameStrings.mono _ _ _)
   | (with_reducible exact LeO.refl _)
   | (with_reducible exact LeO.none _)
   | (with_reducible refine LeO.ite ?_ ?_)
   | (with_reducible refine LeO.bind ?_ (fun _ => ?_))
   | exact ih0 _ _ _ _ _ _ _ _ _
   | exact ih1 _ _ _ _ _ _ _ _ _
   | exact customsref08_SameParts.mono _ _ _
   | exact customsref08_SameStrings.mono _ _ _
   | exact LeO.none _
   | refine LeO.ite ?_ ?_
   | refine LeO.bind ?_ (fun _ => ?_)
set_option maxHeartbeats 8000000 in
set_option maxRecDepth 100000 in
theorem customsref08_SameGood.calls (k : Nat) (A0_0 : Option Addr) (c0_0 : Nat) (l0_0 : List ByteArray) (A0_1 : Option Addr) (c0_1 : Nat) (l0_1 : List (S36)) (A0_2 : Option Addr) (c0_2 : Nat) (l0_2 : List (S38)) (a0_3 : Bool) (A1_0 : Option Addr) (c1_0 : Nat) (l1_0 : List ByteArray) (A1_1 : Option Addr) (c1_1 : Nat) (l1_1 : List (S36)) (A1_2 : Option Addr) (c1_2 : Nat) (l1_2 : List (S38)) (a1_3 : Bool) (r : Bool) (w : World) (hr0_0 : Kd.C Kd.string w A0_0 l0_0.length l0_0) (hc0_0 : l0_0.length ≤ c0_0) (hr0_1 : Kd.C k36 w A0_1 l0_1.length l0_1) (hc0_1 : l0_1.length ≤ c0_1) (hr0_2 : Kd.C k38 w A0_2 l0_2.length l0_2) (hc0_2 : l0_2.length ≤ c0_2) (hr1_0 : Kd.C Kd.string w A1_0 l1_0.length l1_0) (hc1_0 : l1_0.length ≤ c1_0) (hr1_1 : Kd.C k36 w A1_1 l1_1.length l1_1) (hc1_1 : l1_1.length ≤ c1_1) (hr1_2 : Kd.C k38 w A1_2 l1_2.length l1_2) (hc1_2 : l1_2.length ≤ c1_2) (h : customsref08_SameGood.f k l0_0 l0_1 l0_2 a0_3 l1_0 l1_1 l1_2 a1_3 = some r) :
  Calls Tryd.prog 17 #[.agg #[.slice A0_0 l0_0.length c0_0, .slice A0_1 l0_1.length c0_1, .slice A0_2 l0_2.length c0_2, .bool a0_3], .agg #[.slice A1_0 l1_0.length c1_0, .slice A1_1 l1_1.length c1_1, .slice A1_2 l1_2.length c1_2, .bool a1_3]] w fun e w' => e = .returned (.bool r) ∧ Below w.heap.size w w' := by
 have hu26 := Tryd.underlying26
 have hu36 := Tryd.underlying36
 have HR0_0 := Aside0.mk hr0_0
 have HC0_0 := Aside0.mk hc0_0
 clear hr0_0 hc0_0
 have HR0_1 := Aside0.mk hr0_1
 have HC0_1 := Aside0.mk hc0_1
 clear hr0_1 hc0_1
 have HR0_2 := Aside0.mk hr0_2
 have HC0_2 := Aside0.mk hc0_2
 clear hr0_2 hc0_2
 have HR1_0 := Aside0.mk hr1_0
 have HC1_0 := Aside0.mk hc1_0
 clear hr1_0 hc1_0
 have HR1_1 := Aside0.mk hr1_1
 have HC1_1 := Aside0.mk hc1_1
 clear hr1_1 hc1_1
 have HR1_2 := Aside0.mk hr1_2
 have HC1_2 := Aside0.mk hc1_2
 clear hr1_2 hc1_2
 have HB := Aside0.mk (Below.refl w.heap.size w)
 have H : ((customsref08_SameStrings.f k l0_0 l1_0).bind fun t17003 => (if t17003 = true then (if (a0_3 != a1_3) = true then (customsref08_SameGood.j0 k true l0_0 l0_1 l0_2 a0_3 l1_0 l1_1 l1_2 a1_3) else (customsref08_SameGood.j0 k ((l0_1.length : Int) != (l1_1.length : Int)) l0_0 l0_1 l0_2 a0_3 l1_0 l1_1 l1_2 a1_3)) else (customsref08_SameGood.j0 k true l0_0 l0_1 l0_2 a0_3 l1_0 l1_1 l1_2 a1_3))) = some r := h
 clear h
 have HC3 := Aside0.mk H
 clear H
 go_enter Tryd.func17, Tryd.ntmps17
 go_upto_region 1 with (first | ((with_reducible refine gate_dst (N := 2) rfl ?_); (try (refine gate_guard (by rfl) ?_; dsimp only)); refine box_event ?hg (N := 2) ?hd (cs := #[.slice A0_0 l0_0.length c0_0, .slice A0_1 l0_1.length c0_1, .slice A0_2 l0_2.length c0_2, .bool a0_3]) (t := 26) ?hr ?_; (case hd => rfl); (case hg => rfl); (case hr => exact goR); intro gb17001 hg w4 hbox hb; have BK17001 := Aside0.mk (hbox); have GW17001 := gwE hg HB; have GE17001 := GW17001; have GI17001 := GE_.mk GE17001.out; replace HB := mvH HB hb; clear hb hbox hg) | ((with_reducible refine gate_dst (N := 3) rfl ?_); (try (refine gate_guard (by rfl) ?_; dsimp only)); refine box_event ?hg (N := 3) ?hd (cs := #[.slice A1_0 l1_0.length c1_0, .slice A1_1 l1_1.length c1_1, .slice A1_2 l1_2.length c1_2, .bool a1_3]) (t := 26) ?hr ?_; (case hd => rfl); (case hg => rfl); (case hr => exact goR); intro gb17002 hg w5 hbox hb; have BK17002 := Aside0.mk (hbox); have GW17002 := gwB hg HB; have GE17002 := GW17002; have NB17001_17002 := nbL hg BK17001; have NB17002_17001 := nbR hg BK17001; have GI17002 := GE_.mk GE17002.out; replace BK17001 := mvB BK17001 hb; replace HB := mvH HB hb; clear hb hbox hg))
 repeat (go_quiet (first | ((with_reducible refine gate_dst (N := 2) rfl ?_); (try (refine gate_guard (by rfl) ?_; dsimp only)); refine box_event ?hg (N := 2) ?hd (cs := #[.slice A0_0 l0_0.length c0_0, .slice A0_1 l0_1.length c0_1, .slice A0_2 l0_2.length c0_2, .bool a0_3]) (t := 26) ?hr ?_; (case hd => rfl); (case hg => rfl); (case hr => exact goR); intro gb17001 hg w4 hbox hb; have BK17001 := Aside0.mk (hbox); have GW17001 := gwE hg HB; have GE17001 := GW17001; have GI17001 := GE_.mk GE17001.out; replace HB := mvH HB hb; clear hb hbox hg) | ((with_reducible refine gate_dst (N := 3) rfl ?_); (try (refine gate_guard (by rfl) ?_; dsimp only)); refine box_event ?hg (N := 3) ?hd (cs := #[.slice A1_0 l1_0.length c1_0, .slice A1_1 l1_1.length c1_1, .slice A1_2 l1_2.length c1_2, .bool a1_3]) (t := 26) ?hr ?_; (case hd => rfl); (case hg => rfl); (case hr => exact goR); intro gb17002 hg w5 hbox hb; have BK17002 := Aside0.mk (hbox); have GW17002 := gwB hg HB; have GE17002 := GW17002; have NB17001_17002 := nbL hg BK17001; have NB17002_17001 := nbR hg BK17001; have GI17002 := GE_.mk GE17002.out; replace BK17001 := mvB BK17001 hb; replace HB := mvH HB hb; clear hb hbox hg)); go_upto_region 1 with (first | ((with_reducible refine gate_dst (N := 2) rfl ?_); (try (refine gate_guard (by rfl) ?_; dsimp only)); refine box_event ?hg (N := 2) ?hd (cs := #[.slice A0_0 l0_0.length c0_0, .slice A0_1 l0_1.length c0_1, .slice A0_2 l0_2.length c0_2, .bool a0_3]) (t := 26) ?hr ?_; (case hd => rfl); (case hg => rfl); (case hr => exact goR); intro gb17001 hg w4 hbox hb; have BK17001 := Aside0.mk (hbox); have GW17001 := gwE hg HB; have GE17001 := GW17001; have GI17001 := GE_.mk GE17001.out; replace HB := mvH HB hb; clear hb hbox hg) | ((with_reducible refine gate_dst (N := 3) rfl ?_); (try (refine gate_guard (by rfl) ?_; dsimp only)); refine box_event ?hg (N := 3) ?hd (cs := #[.slice A1_0 l1_0.length c1_0, .slice A1_1 l1_1.length c1_1, .slice A1_2 l1_2.length c1_2, .bool a1_3]) (t := 26) ?hr ?_; (case hd => rfl); (case hg => rfl); (case hr => exact goR); intro gb17002 hg w5 hbox hb; have BK17002 := Aside0.mk (hbox); have GW17002 := gwB hg HB; have GE17002 := GW17002; have NB17001_17002 := nbL hg BK17001; have NB17002_17001 := nbR hg BK17001; have GI17002 := GE_.mk GE17002.out; replace BK17001 := mvB BK17001 hb; replace HB := mvH HB hb; clear hb hbox hg)))
 (try simp only [Act.put, List.setIfInBounds_toArray, List.set_cons_zero, List.set_cons_succ])
 go_cut [27] (fun v27 wc => ∃ (kq : Nat) (x27_2 : Bool), v27 = .bool x27_2 ∧ Aside0 (customsref08_SameGood.j0 kq x27_2 l0_0 l0_1 l0_2 a0_3 l1_0 l1_1 l1_2 a1_3 = some r) ∧ Aside0 (kq ≤ k) ∧ Aside0 (wc.heap[gb17001]? = some (.cells #[(.slice A0_0 l0_0.length c0_0), (.slice A0_1 l0_1.length c0_1), (.slice A0_2 l0_2.length c0_2), .bool a0_3] 26 (0, 0))) ∧ Aside0 (wc.heap[gb17002]? = some (.cells #[(.slice A1_0 l1_0.length c1_0), (.slice A1_1 l1_1.length c1_1), (.slice A1_2 l1_2.length c1_2), .bool a1_3] 26 (0, 0))) ∧ Aside0 (Below w.heap.size w wc))
 case first =>
  have H := HC3.out
  clear HC3
  replace H := Option.bind_eq_some_iff.mp H
  obtain ⟨t17003, A60, H⟩ := H
  try dsimp only at H
  have A6 := Aside0.mk A60
  clear A60
  by_cases c7 : t17003 = true
  ·
   subst c7
   have H1 : (if (a0_3 != a1_3) = true then (customsref08_SameGood.j0 k true l0_0 l0_1 l0_2 a0_3 l1_0 l1_1 l1_2 a1_3) else (customsref08_SameGood.j0 k ((l0_1.length : Int) != (l1_1.length : Int)) l0_0 l0_1 l0_2 a0_3 l1_0 l1_1 l1_2 a1_3)) = some r := by rw [if_pos rfl] at H; exact H
   clear H
   have H := H1
   clear H1
   by_cases c8 : (a0_3 != a1_3) = true
   ·
    rw [if_pos c8] at H
    have c8b0 : (a0_3 != a1_3) = true := c8
    (try (have c8b1 : decide (a0_3 = a1_3) = false := by simpa using c8))
    (try (have c8b2 : (a0_3 == a1_3) = false := by simpa using c8))
    (try (have c8b3 : ¬ (a0_3 = a1_3) := by simpa using c8))
    clear c8
    (first | rw [c8b0] | (simp only [i64_w, i32_w]; rw [c8b0]) | rw [c8b1] | skip)
    have H' := Aside0.mk H
    clear H
    have hnb9 := NB17001_17002.out
    have hnc9 := NB17002_17001.out
    obtain ⟨hcz10_0, hcz10_1, hcz10_2, hcz10_3, hfz10_0, hfz10_1, hfz10_2, hfz10_3⟩ := bk4 BK17001.out
    obtain ⟨hcz11_0, hcz11_1, hcz11_2, hcz11_3, hfz11_0, hfz11_1, hfz11_2, hfz11_3⟩ := bk4 BK17002.out
    go_wp2_with (first | (go_at_call 39; (with_reducible refine (customsref08_SameStrings.calls k _ _ l0_0 _ _ l1_0 true _ ?side1 ?side2 ?side3 ?side4 A6.out).mono ?_); (case side1 => repeat (first | exact (Kd.C_below HR0_0.out HB.out) | (with_reducible refine Kd.C_alloc ?_ _) | (with_reducible refine Kd.C_drewN ?_ _) | (with_reducible refine Kd.C_drew ?_))); (case side2 => exact HC0_0.out); (case side3 => repeat (first | exact (Kd.C_below HR1_0.out HB.out) | (with_reducible refine Kd.C_alloc ?_ _) | (with_reducible refine Kd.C_drewN ?_ _) | (with_reducible refine Kd.C_drew ?_))); (case side4 => exact HC1_0.out); rintro e w' ⟨rfl, ⟨nd, rfl⟩⟩; (try first | exact ⟨rfl, _, World.drewN_drewN _ _ _⟩ | exact ⟨rfl, _, Eq.trans (World.drewN_drewN _ _ _) (congrArg (World.drewN _) (Nat.add_assoc _ _ _))⟩)))
    repeat (go_quiet (first | (go_at_call 39; (with_reducible refine (customsref08_SameStrings.calls k _ _ l0_0 _ _ l1_0 true _ ?side1 ?side2 ?side3 ?side4 A6.out).mono ?_); (case side1 => repeat (first | exact (Kd.C_below HR0_0.out HB.out) | (with_reducible refine Kd.C_alloc ?_ _) | (with_reducible refine Kd.C_drewN ?_ _) | (with_reducible refine Kd.C_drew ?_))); (case side2 => exact HC0_0.out); (case side3 => repeat (first | exact (Kd.C_below HR1_0.out HB.out) | (with_reducible refine Kd.C_alloc ?_ _) | (with_reducible refine Kd.C_drewN ?_ _) | (with_reducible refine Kd.C_drew ?_))); (case side4 => exact HC1_0.out); rintro e w' ⟨rfl, ⟨nd, rfl⟩⟩; (try first | exact ⟨rfl, _, World.drewN_drewN _ _ _⟩ | exact ⟨rfl, _, Eq.trans (World.drewN_drewN _ _ _) (congrArg (World.drewN _) (Nat.add_assoc _ _ _))⟩))); try go_wp2_with (first | (go_at_call 39; (with_reducible refine (customsref08_SameStrings.calls k _ _ l0_0 _ _ l1_0 true _ ?side1 ?side2 ?side3 ?side4 A6.out).mono ?_); (case side1 => repeat (first | exact (Kd.C_below HR0_0.out HB.out) | (with_reducible refine Kd.C_alloc ?_ _) | (with_reducible refine Kd.C_drewN ?_ _) | (with_reducible refine Kd.C_drew ?_))); (case side2 => exact HC0_0.out); (case side3 => repeat (first | exact (Kd.C_below HR1_0.out HB.out) | (with_reducible refine Kd.C_alloc ?_ _) | (with_reducible refine Kd.C_drewN ?_ _) | (with_reducible refine Kd.C_drew ?_))); (case side4 => exact HC1_0.out); rintro e w' ⟨rfl, ⟨nd, rfl⟩⟩; (try first | exact ⟨rfl, _, World.drewN_drewN _ _ _⟩ | exact ⟨rfl, _, Eq.trans (World.drewN_drewN _ _ _) (congrArg (World.drewN _) (Nat.add_assoc _ _ _))⟩))))
    go_meet
    case rel => exact ⟨_, (true), rls, H', ⟨by first | omega | exact Nat.le_refl _⟩, ⟨blk_ext BK17001.out⟩, ⟨blk_ext BK17002.out⟩, ⟨below_extB HB.out⟩⟩
   ·
    rw [if_neg c8] at H
    have c8b0 : (a0_3 != a1_3) = false := by simpa using c8
    (try (have c8b1 : decide (a0_3 = a1_3) = true := by simpa using c8))
    (try (have c8b2 : (a0_3 == a1_3) = true := by simpa using c8))
    clear c8
    (first | rw [c8b0] | (simp only [i64_w, i32_w]; rw [c8b0]) | rw [c8b1] | skip)
    have H' := Aside0.mk H
    clear H
    have hnb12 := NB17001_17002.out
    have hnc12 := NB17002_17001.out
    obtain ⟨hcz13_0, hcz13_1, hcz13_2, hcz13_3, hfz13_0, hfz13_1, hfz13_2, hfz13_3⟩ := bk4 BK17001.out
    obtain ⟨hcz14_0, hcz14_1, hcz14_2, hcz14_3, hfz14_0, hfz14_1, hfz14_2, hfz14_3⟩ := bk4 BK17002.out
    go_wp2_with (first | (go_at_call 39; (with_reducible refine (customsref08_SameStrings.calls k _ _ l0_0 _ _ l1_0 true _ ?side1 ?side2 ?side3 ?side4 A6.out).mono ?_); (case side1 => repeat (first | exact (Kd.C_below HR0_0.out HB.out) | (with_reducible refine Kd.C_alloc ?_ _) | (with_reducible refine Kd.C_drewN ?_ _) | (with_reducible refine Kd.C_drew ?_))); (case side2 => exact HC0_0.out); (case side3 => repeat (first | exact (Kd.C_below HR1_0.out HB.out) | (with_reducible refine Kd.C_alloc ?_ _) | (with_reducible refine Kd.C_drewN ?_ _) | (with_reducible refine Kd.C_drew ?_))); (case side4 => exact HC1_0.out); rintro e w' ⟨rfl, ⟨nd, rfl⟩⟩; (try first | exact ⟨rfl, _, World.drewN_drewN _ _ _⟩ | exact ⟨rfl, _, Eq.trans (World.drewN_drewN _ _ _) (congrArg (World.drewN _) (Nat.add_assoc _ _ _))⟩)))
    repeat (go_quiet (first | (go_at_call 39; (with_reducible refine (customsref08_SameStrings.calls k _ _ l0_0 _ _ l1_0 true _ ?side1 ?side2 ?side3 ?side4 A6.out).mono ?_); (case side1 => repeat (first | exact (Kd.C_below HR0_0.out HB.out) | (with_reducible refine Kd.C_alloc ?_ _) | (with_reducible refine Kd.C_drewN ?_ _) | (with_reducible refine Kd.C_drew ?_))); (case side2 => exact HC0_0.out); (case side3 => repeat (first | exact (Kd.C_below HR1_0.out HB.out) | (with_reducible refine Kd.C_alloc ?_ _) | (with_reducible refine Kd.C_drewN ?_ _) | (with_reducible refine Kd.C_drew ?_))); (case side4 => exact HC1_0.out); rintro e w' ⟨rfl, ⟨nd, rfl⟩⟩; (try first | exact ⟨rfl, _, World.drewN_drewN _ _ _⟩ | exact ⟨rfl, _, Eq.trans (World.drewN_drewN _ _ _) (congrArg (World.drewN _) (Nat.add_assoc _ _ _))⟩))); try go_wp2_with (first | (go_at_call 39; (with_reducible refine (customsref08_SameStrings.calls k _ _ l0_0 _ _ l1_0 true _ ?side1 ?side2 ?side3 ?side4 A6.out).mono ?_); (case side1 => repeat (first | exact (Kd.C_below HR0_0.out HB.out) | (with_reducible refine Kd.C_alloc ?_ _) | (with_reducible refine Kd.C_drewN ?_ _) | (with_reducible refine Kd.C_drew ?_))); (case side2 => exact HC0_0.out); (case side3 => repeat (first | exact (Kd.C_below HR1_0.out HB.out) | (with_reducible refine Kd.C_alloc ?_ _) | (with_reducible refine Kd.C_drewN ?_ _) | (with_reducible refine Kd.C_drew ?_))); (case side4 => exact HC1_0.out); rintro e w' ⟨rfl, ⟨nd, rfl⟩⟩; (try first | exact ⟨rfl, _, World.drewN_drewN _ _ _⟩ | exact ⟨rfl, _, Eq.trans (World.drewN_drewN _ _ _) (congrArg (World.drewN _) (Nat.add_assoc _ _ _))⟩))))
    go_meet
    case rel => exact ⟨_, (((l0_1.length : Int) != (l1_1.length : Int))), rls, H', ⟨by first | omega | exact Nat.le_refl _⟩, ⟨blk_ext BK17001.out⟩, ⟨blk_ext BK17002.out⟩, ⟨below_extB HB.out⟩⟩
  ·
   replace c7 := Bool.eq_false_iff.mpr c7
   subst c7
   have H1 : (customsref08_SameGood.j0 k true l0_0 l0_1 l0_2 a0_3 l1_0 l1_1 l1_2 a1_3) = some r := by rw [if_neg (show ¬ (false = true) by decide)] at H; exact H
   clear H
   have H := H1
   clear H1
   have H' := Aside0.mk H
   clear H
   have hnb15 := NB17001_17002.out
   have hnc15 := NB17002_17001.out
   obtain ⟨hcz16_0, hcz16_1, hcz16_2, hcz16_3, hfz16_0, hfz16_1, hfz16_2, hfz16_3⟩ := bk4 BK17001.out
   obtain ⟨hcz17_0, hcz17_1, hcz17_2, hcz17_3, hfz17_0, hfz17_1, hfz17_2, hfz17_3⟩ := bk4 BK17002.out
   go_wp2_with (first | (go_at_call 39; (with_reducible refine (customsref08_SameStrings.calls k _ _ l0_0 _ _ l1_0 false _ ?side1 ?side2 ?side3 ?side4 A6.out).mono ?_); (case side1 => repeat (first | exact (Kd.C_below HR0_0.out HB.out) | (with_reducible refine Kd.C_alloc ?_ _) | (with_reducible refine Kd.C_drewN ?_ _) | (with_reducible refine Kd.C_drew ?_))); (case side2 => exact HC0_0.out); (case side3 => repeat (first | exact (Kd.C_below HR1_0.out HB.out) | (with_reducible refine Kd.C_alloc ?_ _) | (with_reducible refine Kd.C_drewN ?_ _) | (with_reducible refine Kd.C_drew ?_))); (case side4 => exact HC1_0.out); rintro e w' ⟨rfl, ⟨nd, rfl⟩⟩; (try first | exact ⟨rfl, _, World.drewN_drewN _ _ _⟩ | exact ⟨rfl, _, Eq.trans (World.drewN_drewN _ _ _) (congrArg (World.drewN _) (Nat.add_assoc _ _ _))⟩)))
   repeat (go_quiet (first | (go_at_call 39; (with_reducible refine (customsref08_SameStrings.calls k _ _ l0_0 _ _ l1_0 false _ ?side1 ?side2 ?side3 ?side4 A6.out).mono ?_); (case side1 => repeat (first | exact (Kd.C_below HR0_0.out HB.out) | (with_reducible refine Kd.C_alloc ?_ _) | (with_reducible refine Kd.C_drewN ?_ _) | (with_reducible refine Kd.C_drew ?_))); (case side2 => exact HC0_0.out); (case side3 => repeat (first | exact (Kd.C_below HR1_0.out HB.out) | (with_reducible refine Kd.C_alloc ?_ _) | (with_reducible refine Kd.C_drewN ?_ _) | (with_reducible refine Kd.C_drew ?_))); (case side4 => exact HC1_0.out); rintro e w' ⟨rfl, ⟨nd, rfl⟩⟩; (try first | exact ⟨rfl, _, World.drewN_drewN _ _ _⟩ | exact ⟨rfl, _, Eq.trans (World.drewN_drewN _ _ _) (congrArg (World.drewN _) (Nat.add_assoc _ _ _))⟩))); try go_wp2_with (first | (go_at_call 39; (with_reducible refine (customsref08_SameStrings.calls k _ _ l0_0 _ _ l1_0 false _ ?side1 ?side2 ?side3 ?side4 A6.out).mono ?_); (case side1 => repeat (first | exact (Kd.C_below HR0_0.out HB.out) | (with_reducible refine Kd.C_alloc ?_ _) | (with_reducible refine Kd.C_drewN ?_ _) | (with_reducible refine Kd.C_drew ?_))); (case side2 => exact HC0_0.out); (case side3 => repeat (first | exact (Kd.C_below HR1_0.out HB.out) | (with_reducible refine Kd.C_alloc ?_ _) | (with_reducible refine Kd.C_drewN ?_ _) | (with_reducible refine Kd.C_drew ?_))); (case side4 => exact HC1_0.out); rintro e w' ⟨rfl, ⟨nd, rfl⟩⟩; (try first | exact ⟨rfl, _, World.drewN_drewN _ _ _⟩ | exact ⟨rfl, _, Eq.trans (World.drewN_drewN _ _ _) (congrArg (World.drewN _) (Nat.add_assoc _ _ _))⟩))))
   go_meet
   case rel => exact ⟨_, (true), rls, H', ⟨by first | omega | exact Nat.le_refl _⟩, ⟨blk_ext BK17001.out⟩, ⟨blk_ext BK17002.out⟩, ⟨below_extB HB.out⟩⟩
 case rest =>
  clear HC3
  try clear c1
  try clear p2
  try clear c7
  try clear c8
  try clear c8b0
  try clear c8b1
  try clear c8b2
  try clear c9
  try clear c12
  try clear c15
  try clear c17
  try clear hcz10_0 hcz10_1 hcz10_2 hcz10_3
  try clear hcz11_0 hcz11_1 hcz11_2 hcz11_3
  try clear hcz13_0 hcz13_1 hcz13_2 hcz13_3
  try clear hcz14_0 hcz14_1 hcz14_2 hcz14_3
  try clear hcz16_0 hcz16_1 hcz16_2 hcz16_3
  try clear hcz17_0 hcz17_1 hcz17_2 hcz17_3
  try clear hfz10_0 hfz10_1 hfz10_2 hfz10_3
  try clear hfz11_0 hfz11_1 hfz11_2 hfz11_3
  try clear hfz13_0 hfz13_1 hfz13_2 hfz13_3
  try clear hfz14_0 hfz14_1 hfz14_2 hfz14_3
  try clear hfz16_0 hfz16_1 hfz16_2 hfz16_3
  try clear hfz17_0 hfz17_1 hfz17_2 hfz17_3
  obtain ⟨kq, x27_2, rfl, HA, HJ2, BK17001, BK17002, HB⟩ := hcut
  cases kq with
  | zero => exact absurd HA.out (by simp [customsref08_SameGood.j0])
  | succ kj2 =>
   have H := HA.out
   clear HA
   simp only [customsref08_SameGood.j0] at H
   by_cases c18 : x27_2 = true
   ·
    subst c18
    have H1 : (some false) = some r := by rw [if_pos rfl] at H; exact H
    clear H
    have H := H1
    clear H1
    obtain rfl := Option.some.inj H
    go_wp2
    repeat (go_quiet (fail); try go_wp2)
    go_ret
    exact ⟨by first | rfl | (simp [errW_none, errW_some] <;> rfl) | (simp [*, errW_none, errW_some] <;> rfl), below_extB HB.out⟩
   ·
    replace c18 := Bool.eq_false_iff.mpr c18
    subst c18
    have H1 : (customsref08_SameGood.l0 kj2 0 l0_0 l0_1 l0_2 a0_3 l1_0 l1_1 l1_2 a1_3) = some r := by rw [if_neg (show ¬ (false = true) by decide)] at H; exact H
    clear H
    have H := H1
    clear H1
    have H' := Aside0.mk H
    clear H
    go_wp2
    repeat (go_quiet (fail); try go_wp2)
    go_loopg [5] kj2 (fun kq v5 w' => ∃ (x5_2 : Int), v5 = .int .i64 x5_2 ∧ Aside0 (customsref08_SameGood.l0 kq x5_2 l0_0 l0_1 l0_2 a0_3 l1_0 l1_1 l1_2 a1_3 = some r) ∧ Aside0 (kq ≤ kj2) ∧ Aside0 (w'.heap[gb17001]? = some (.cells #[(.slice A0_0 l0_0.length c0_0), (.slice A0_1 l0_1.length c0_1), (.slice A0_2 l0_2.length c0_2), .bool a0_3] 26 (0, 0))) ∧ Aside0 (w'.heap[gb17002]? = some (.cells #[(.slice A1_0 l1_0.length c1_0), (.slice A1_1 l1_1.length c1_1), (.slice A1_2 l1_2.length c1_2), .bool a1_3] 26 (0, 0))) ∧ Aside0 (Below w.heap.size w w'))
    case atStart => exact ⟨(0), rls, H', ⟨Nat.le_refl _⟩, ⟨blk_ext BK17001.out⟩, ⟨blk_ext BK17002.out⟩, ⟨below_extB HB.out⟩⟩
    case round =>
     clear H'
     try clear c1
     try clear p2
     try clear c7
     try clear c8
     try clear c8b0
     try clear c8b1
     try clear c8b2
     try clear c9
     try clear c12
     try clear c15
     try clear c17
     try clear c18
     try clear hcz10_0 hcz10_1 hcz10_2 hcz10_3
     try clear hcz11_0 hcz11_1 hcz11_2 hcz11_3
     try clear hcz13_0 hcz13_1 hcz13_2 hcz13_3
     try clear hcz14_0 hcz14_1 hcz14_2 hcz14_3
     try clear hcz16_0 hcz16_1 hcz16_2 hcz16_3
     try clear hcz17_0 hcz17_1 hcz17_2 hcz17_3
     try clear hfz10_0 hfz10_1 hfz10_2 hfz10_3
     try clear hfz11_0 hfz11_1 hfz11_2 hfz11_3
     try clear hfz13_0 hfz13_1 hfz13_2 hfz13_3
     try clear hfz14_0 hfz14_1 hfz14_2 hfz14_3
     try clear hfz16_0 hfz16_1 hfz16_2 hfz16_3
     try clear hfz17_0 hfz17_1 hfz17_2 hfz17_3
     try clear p2
     obtain ⟨x5_2, rfl, HA, HK2, BK17001, BK17002, HB⟩ := hrel
     cases gk with
     | zero => exact absurd HA.out (by simp [customsref08_SameGood.l0])
     | succ k2 =>
      have H := HA.out
      clear HA
      simp only [customsref08_SameGood.l0] at H
      by_cases c19 : x5_2 < (l0_1.length : Int)
      ·
       rw [if_pos c19] at H
       have c19b0 : decide (x5_2 < (l0_1.length : Int)) = true := decide_eq_true c19
       clear c19
       replace H := if_some H; obtain ⟨c20, H⟩ := H
       have c20b0 : decide (0 ≤ x5_2) = true := decide_eq_true c20
       clear c20
       replace H := if_some H; obtain ⟨c21, H⟩ := H
       have c21b0 : decide (x5_2 < (l1_1.length : Int)) = true := decide_eq_true c21
       clear c21
       by_cases c22 : (!((((rd_T36 l0_1 x5_2).f0).toList) == (((rd_T36 l1_1 x5_2).f0).toList)) || (!(((rd_T36 l0_1 x5_2).f1) == ((rd_T36 l1_1 x5_2).f1)))) = true
       ·
        rw [if_pos c22] at H
        have c22b0 : (!((((rd_T36 l0_1 x5_2).f0).toList) == (((rd_T36 l1_1 x5_2).f0).toList)) || (!(((rd_T36 l0_1 x5_2).f1) == ((rd_T36 l1_1 x5_2).f1)))) = true := c22
        clear c22
        obtain rfl := Option.some.inj H
        have hnb23 := NB17001_17002.out
        have hnc23 := NB17002_17001.out
        obtain ⟨hcz24_0, hcz24_1, hcz24_2, hcz24_3, hfz24_0, hfz24_1, hfz24_2, hfz24_3⟩ := bk4 BK17001.out
        have p17004 : 0 ≤ (x5_2 : Int) := odt
        have q17004 : x5_2 < (l0_1.length : Int) := odt
        obtain ⟨ad17004, e17004, hx17004_0, hx17004_1⟩ := at_T36 HR0_1.out x5_2 p17004 q17004
        cases e17004
        (try replace hx17004_0 := (HB.out.cell (World.block_lt_of_cell? w _ hx17004_0)).trans hx17004_0)
        (try replace hx17004_1 := (HB.out.cell (World.block_lt_of_cell? w _ hx17004_1)).trans hx17004_1)
        replace p17004 := eq_true p17004
        replace q17004 := eq_true q17004
        obtain ⟨hcz25_0, hcz25_1, hcz25_2, hcz25_3, hfz25_0, hfz25_1, hfz25_2, hfz25_3⟩ := bk4 BK17002.out
        have p17005 : 0 ≤ (x5_2 : Int) := odt
        have q17005 : x5_2 < (l1_1.length : Int) := odt
        obtain ⟨ad17005, e17005, hx17005_0, hx17005_1⟩ := at_T36 HR1_1.out x5_2 p17005 q17005
        cases e17005
        (try replace hx17005_0 := (HB.out.cell (World.block_lt_of_cell? w _ hx17005_0)).trans hx17005_0)
        (try replace hx17005_1 := (HB.out.cell (World.block_lt_of_cell? w _ hx17005_1)).trans hx17005_1)
        replace p17005 := eq_true p17005
        replace q17005 := eq_true q17005
        go_wp2
        repeat (go_quiet (fail); try go_wp2)
        go_ret
        exact ⟨by first | rfl | (simp [errW_none, errW_some] <;> rfl) | (simp [*, errW_none, errW_some] <;> rfl), below_extB HB.out⟩
       ·
        rw [if_neg c22] at H
        have c22b0 : (!((((rd_T36 l0_1 x5_2).f0).toList) == (((rd_T36 l1_1 x5_2).f0).toList)) || (!(((rd_T36 l0_1 x5_2).f1) == ((rd_T36 l1_1 x5_2).f1)))) = false := by simpa using c22
        clear c22
        have H' := Aside0.mk H
        clear H
        have hnb26 := NB17001_17002.out
        have hnc26 := NB17002_17001.out
        obtain ⟨hcz27_0, hcz27_1, hcz27_2, hcz27_3, hfz27_0, hfz27_1, hfz27_2, hfz27_3⟩ := bk4 BK17001.out
        have p17004 : 0 ≤ (x5_2 : Int) := odt
        have q17004 : x5_2 < (l0_1.length : Int) := odt
        obtain ⟨ad17004, e17004, hx17004_0, hx17004_1⟩ := at_T36 HR0_1.out x5_2 p17004 q17004
        cases e17004
        (try replace hx17004_0 := (HB.out.cell (World.block_lt_of_cell? w _ hx17004_0)).trans hx17004_0)
        (try replace hx17004_1 := (HB.out.cell (World.block_lt_of_cell? w _ hx17004_1)).trans hx17004_1)
        replace p17004 := eq_true p17004
        replace q17004 := eq_true q17004
        obtain ⟨hcz28_0, hcz28_1, hcz28_2, hcz28_3, hfz28_0, hfz28_1, hfz28_2, hfz28_3⟩ := bk4 BK17002.out
        have p17005 : 0 ≤ (x5_2 : Int) := odt
        have q17005 : x5_2 < (l1_1.length : Int) := odt
        obtain ⟨ad17005, e17005, hx17005_0, hx17005_1⟩ := at_T36 HR1_1.out x5_2 p17005 q17005
        cases e17005
        (try replace hx17005_0 := (HB.out.cell (World.block_lt_of_cell? w _ hx17005_0)).trans hx17005_0)
        (try replace hx17005_1 := (HB.out.cell (World.block_lt_of_cell? w _ hx17005_1)).trans hx17005_1)
        replace p17005 := eq_true p17005
        replace q17005 := eq_true q17005
        go_wp2
        repeat (go_quiet (fail); try go_wp2)
        go_roundg k2
        case measure => have := HJ2.out; have := HK2.out; omega
        case rel => exact ⟨(wrap64 (x5_2 + 1)), rls, H', ⟨by have := HJ2.out; have := HK2.out; omega⟩, ⟨blk_ext BK17001.out⟩, ⟨blk_ext BK17002.out⟩, ⟨below_extB HB.out⟩⟩
      ·
       rw [if_neg c19] at H
       have c19b0 : decide (x5_2 < (l0_1.length : Int)) = false := decide_eq_false c19
       clear c19
       replace H := Option.bind_eq_some_iff.mp H
       obtain ⟨t17006, A290, H⟩ := H
       try dsimp only at H
       have A29 := Aside0.mk A290
       clear A290
       obtain rfl := Option.some.inj H
       have hnb30 := NB17001_17002.out
       have hnc30 := NB17002_17001.out
       obtain ⟨hcz31_0, hcz31_1, hcz31_2, hcz31_3, hfz31_0, hfz31_1, hfz31_2, hfz31_3⟩ := bk4 BK17001.out
       obtain ⟨hcz32_0, hcz32_1, hcz32_2, hcz32_3, hfz32_0, hfz32_1, hfz32_2, hfz32_3⟩ := bk4 BK17002.out
       go_wp2_with (first | (go_at_call 20; (with_reducible refine (customsref08_SameParts.calls k2 _ _ l0_2 _ _ l1_2 t17006 _ ?side1 ?side2 ?side3 ?side4 A29.out).mono ?_); (case side1 => repeat (first | exact (Kd.C_below HR0_2.out HB.out) | (with_reducible refine Kd.C_alloc ?_ _) | (with_reducible refine Kd.C_drewN ?_ _) | (with_reducible refine Kd.C_drew ?_))); (case side2 => exact HC0_2.out); (case side3 => repeat (first | exact (Kd.C_below HR1_2.out HB.out) | (with_reducible refine Kd.C_alloc ?_ _) | (with_reducible refine Kd.C_drewN ?_ _) | (with_reducible refine Kd.C_drew ?_))); (case side4 => exact HC1_2.out); rintro e w' ⟨rfl, ⟨nd, rfl⟩⟩; (try first | exact ⟨rfl, _, World.drewN_drewN _ _ _⟩ | exact ⟨rfl, _, Eq.trans (World.drewN_drewN _ _ _) (congrArg (World.drewN _) (Nat.add_assoc _ _ _))⟩)))
       repeat (go_quiet (first | (go_at_call 20; (with_reducible refine (customsref08_SameParts.calls k2 _ _ l0_2 _ _ l1_2 t17006 _ ?side1 ?side2 ?side3 ?side4 A29.out).mono ?_); (case side1 => repeat (first | exact (Kd.C_below HR0_2.out HB.out) | (with_reducible refine Kd.C_alloc ?_ _) | (with_reducible refine Kd.C_drewN ?_ _) | (with_reducible refine Kd.C_drew ?_))); (case side2 => exact HC0_2.out); (case side3 => repeat (first | exact (Kd.C_below HR1_2.out HB.out) | (with_reducible refine Kd.C_alloc ?_ _) | (with_reducible refine Kd.C_drewN ?_ _) | (with_reducible refine Kd.C_drew ?_))); (case side4 => exact HC1_2.out); rintro e w' ⟨rfl, ⟨nd, rfl⟩⟩; (try first | exact ⟨rfl, _, World.drewN_drewN _ _ _⟩ | exact ⟨rfl, _, Eq.trans (World.drewN_drewN _ _ _) (congrArg (World.drewN _) (Nat.add_assoc _ _ _))⟩))); try go_wp2_with (first | (go_at_call 20; (with_reducible refine (customsref08_SameParts.calls k2 _ _ l0_2 _ _ l1_2 t17006 _ ?side1 ?side2 ?side3 ?side4 A29.out).mono ?_); (case side1 => repeat (first | exact (Kd.C_below HR0_2.out HB.out) | (with_reducible refine Kd.C_alloc ?_ _) | (with_reducible refine Kd.C_drewN ?_ _) | (with_reducible refine Kd.C_drew ?_))); (case side2 => exact HC0_2.out); (case side3 => repeat (first | exact (Kd.C_below HR1_2.out HB.out) | (with_reducible refine Kd.C_alloc ?_ _) | (with_reducible refine Kd.C_drewN ?_ _) | (with_reducible refine Kd.C_drew ?_))); (case side4 => exact HC1_2.out); rintro e w' ⟨rfl, ⟨nd, rfl⟩⟩; (try first | exact ⟨rfl, _, World.drewN_drewN _ _ _⟩ | exact ⟨rfl, _, Eq.trans (World.drewN_drewN _ _ _) (congrArg (World.drewN _) (Nat.add_assoc _ _ _))⟩))))
       go_ret
       exact ⟨by first | rfl | (simp [errW_none, errW_some] <;> rfl) | (simp [*, errW_none, errW_some] <;> rfl), below_extB HB.out⟩

end Go.Proofs.YtoolggpfgadjlaaDoor.Z
