/- Printed: a Go function in plain Lean, and that its call does what it says. Conditions: those each theorem states. -/
import Derived.Test.YtoolggpfgadjlaaDoorZ0
import Derived.Test.YtoolggpfgadjlaaDoorZslicesClonestringstring
import Derived.Test.YtoolggpfgadjlaaDoorZapiComponent43
namespace Go.Proofs.YtoolggpfgadjlaaDoor.Z
open Go.RowKit Go.Proofs.YtoolggpfgadjlaaDoorW.PrintWords Go.Proofs.YtoolggpfgadjlaaDoorW.PrintLast Go.Proofs.YtoolggpfgadjlaaDoorW.PrintMore
attribute [local go_sem high] str_leq str_geq str_gtr   -- strings
attribute [local go_sem] max2_int min2_int max_two min_two max_three min_three max_four min_four   -- for this text's walks alone
set_option linter.unusedVariables false
set_option linter.unusedSimpArgs false

/-! ### goods_Characters: function 19 -/
mutual
def goods_Characters.l0 : Nat → List (S38) → List (S38) → Int → Int → List ByteArray → List (S36) → List (S38) → Bool → Option ((List (S38)))
 | 0, _, _, _, _, _, _, _, _ => none
 | k + 1, x3, x9, x10, x11, x19002000, x19002001, x19002002, x19002003 => if x11 < x10 then (if 0 ≤ x11 then (if x11 < (x9.length : Int) then ((slices_Clone_string_string.f ((rd_T38 x9 x11).f0)).bind fun t19004 => (if x3.length < 4398046511104 then (goods_Characters.l0 k (x3 ++ [(⟨t19004, (rd_T38 x9 x11).f1⟩ : S38)]) x9 x10 (wrap64 (x11 + 1)) x19002000 x19002001 x19002002 x19002003) else (none))) else (none)) else (none)) else (goods_Characters.l1 k x3 0 x19002000 x19002001 x19002002 x19002003)
def goods_Characters.l1 : Nat → List (S38) → Int → List ByteArray → List (S36) → List (S38) → Bool → Option ((List (S38)))
 | 0, _, _, _, _, _, _ => none
 | k + 1, x3, x6, x19002000, x19002001, x19002002, x19002003 => if (x19002002.length : Int) = 0 then (if x6 < (x19002001.length : Int) then (if 0 ≤ x6 then (if x3.length < 4398046511104 then (goods_Characters.l1 k (x3 ++ [(⟨(([(rd_T36 x19002001 x6).f0] : List ByteArray)), (rd_T36 x19002001 x6).f1⟩ : S38)]) (wrap64 (x6 + 1)) x19002000 x19002001 x19002002 x19002003) else (none)) else (none)) else ((api_Component_43.f x3).bind fun t19018 => (some t19018))) else ((api_Component_43.f x3).bind fun t19019 => (some t19019))
end
def goods_Characters.f (k : Nat) (l0_0 : List ByteArray) (l0_1 : List (S36)) (l0_2 : List (S38)) (a0_3 : Bool) : Option ((List (S38))) := goods_Characters.l0 k ([] : List (S38)) l0_2 (l0_2.length : Int) 0 l0_0 l0_1 l0_2 a0_3
theorem goods_Characters.mono_l : ∀ k, (∀ y0 y1 y2 y3 y4 y5 y6 y7, LeO (goods_Characters.l0 k y0 y1 y2 y3 y4 y5 y6 y7) (goods_Characters.l0 (k + 1) y0 y1 y2 y3 y4 y5 y6 y7)) ∧ (∀ y0 y1 y2 y3 y4 y5, LeO (goods_Characters.l1 k y0 y1 y2 y3 y4 y5) (goods_Characters.l1 (k + 1) y0 y1 y2 y3 y4 y5))
 | 0 => ⟨fun _ _ _ _ _ _ _ _ r h => by simp [goods_Characters.l0] at h, fun _ _ _ _ _ _ r h => by simp [goods_Characters.l1] at h⟩
 | k + 1 => by
  obtain ⟨ih0, ih1⟩ := goods_Characters.mono_l k
  refine ⟨?_, ?_⟩ <;> intros
  all_goals first | unfold goods_Characters.l0 | unfold goods_Characters.l1
  all_goals repeat' first
   | (with_reducible exact ih0 _ _ _ _ _ _ _ _)
   | (with_reducible exact ih1 _ _ _ _ _ _)
   | (with_reducible exact LeO.refl _)
   | (with_reducible exact LeO.none _)
   | (with_reducible refine LeO.ite ?_ ?_)
   | (with_reducible refine LeO.bind ?_ (fun _ => ?_))
   | exact ih0 _ _ _ _ _ _ _ _
   | exact ih1 _ _ _ _ _ _
   | exact LeO.none _
   | refine LeO.ite ?_ ?_
   | refine LeO.bind ?_ (fun _ => ?_)
theorem goods_Characters.mono : ∀ a0 a1 a2 a3 k, LeO (goods_Characters.f k a0 a1 a2 a3) (goods_Characters.f (k + 1) a0 a1 a2 a3) := by
 intro a0 a1 a2 a3 k
 obtain ⟨ih0, ih1⟩ := goods_Characters.mono_l k
 unfold goods_Characters.f
 repeat' first
   | (with_reducible exact ih0 _ _ _ _ _ _ _ _)
   | (with_reducible exact ih1 _ _ _ _ _ _)
   | (with_reducible exact LeO.refl _)
   | (with_reducible exact LeO.none _)
   | (with_reducible refine LeO.ite ?_ ?_)
   | (with_reducible refine LeO.bind ?_ (fun _ => ?_))
   | exact ih0 _ _ _ _ _ _ _ _
   | exact ih1 _ _ _ _ _ _
   | exact LeO.none _
   | refine LeO.ite ?_ ?_
   | refine LeO.bind ?_ (fun _ => ?_)
def goods_Characters.T5 : Bool × List (List Nat × List Nat) := (true, [([], []), ([], []), ([1], [1]), ([2], [2]), ([], []), ([4], [4]), ([3, 5], [3, 5]), ([6], [6]), ([0, 7, 3], [0, 7]), ([8, 8, 0, 1, 2, 3, 4, 5, 6, 7, 8], [0, 8])])
def goods_Characters.B5 : List Nat := [0, 0, 2, 6, 0, 16, 62, 126, 255, 511]
theorem goods_Characters.tab5 : rtab .any (opsOf Tryd.f19 5) = goods_Characters.T5 := by kernel_rfl
theorem goods_Characters.bits5 : waitsOk goods_Characters.T5.2 goods_Characters.B5 = true := by kernel_rfl
set_option maxHeartbeats 8000000 in
set_option maxRecDepth 100000 in
theorem goods_Characters.calls (k : Nat) (A0_0 : Option Addr) (c0_0 : Nat) (l0_0 : List ByteArray) (A0_1 : Option Addr) (c0_1 : Nat) (l0_1 : List (S36)) (A0_2 : Option Addr) (c0_2 : Nat) (l0_2 : List (S38)) (a0_3 : Bool) (r : List (S38)) (w : World) (hr0_0 : Kd.C Kd.string w A0_0 l0_0.length l0_0) (hc0_0 : l0_0.length ≤ c0_0) (hr0_1 : Kd.C k36 w A0_1 l0_1.length l0_1) (hc0_1 : l0_1.length ≤ c0_1) (hr0_2 : Kd.C k38 w A0_2 l0_2.length l0_2) (hc0_2 : l0_2.length ≤ c0_2) (h : goods_Characters.f k l0_0 l0_1 l0_2 a0_3 = some r) :
  Calls Tryd.prog 19 #[.agg #[.slice A0_0 l0_0.length c0_0, .slice A0_1 l0_1.length c0_1, .slice A0_2 l0_2.length c0_2, .bool a0_3]] w fun e w' => ∃ v0_ : Value, e = .returned (v0_) ∧ Kd.N k38 38 w' w.heap.size (fun k_ => (w.heap.size ≤ k_)) v0_ r ∧ Below w.heap.size w w' := by
 have hu26 := Tryd.underlying26
 have hu38 := Tryd.underlying38
 have hu36 := Tryd.underlying36
 have HR0_0 := Aside0.mk hr0_0
 have HC0_0 := Aside0.mk hc0_0
 clear hr0_0 hc0_0
 have HR0_1 := Aside0.mk hr0_1
 have HC0_1 := Aside0.mk hc0_1
 clear hr0_1 hc0_1
 have HR0_2 := Aside0.mk hr0_2
 have HC0_2 := Aside0.mk hc0_2
 clear hr0_2 hc0_2
 have HB := Aside0.mk (Below.refl w.heap.size w)
 have H : (goods_Characters.l0 k ([] : List (S38)) l0_2 (l0_2.length : Int) 0 l0_0 l0_1 l0_2 a0_3) = some r := h
 clear h
 have H' := Aside0.mk H
 clear H
 go_enter Tryd.func19, Tryd.ntmps19
 go_wp2_with (first | ((with_reducible refine gate_dst (N := 1) rfl ?_); (try (refine gate_guard (by rfl) ?_; dsimp only)); refine box_event ?hg (N := 1) ?hd (cs := #[.slice A0_0 l0_0.length c0_0, .slice A0_1 l0_1.length c0_1, .slice A0_2 l0_2.length c0_2, .bool a0_3]) (t := 26) ?hr ?_; (case hd => rfl); (case hg => rfl); (case hr => exact goR); intro gb19001 hg w2 hbox hb; have BK19001 := Aside0.mk (hbox); have GW19001 := gwE hg HB; have GE19001 := GW19001; have GI19001 := GE_.mk GE19001.out; replace HB := mvH HB hb; clear hb hbox hg; obtain ⟨hcz3_0, hcz3_1, hcz3_2, hcz3_3, hfz3_0, hfz3_1, hfz3_2, hfz3_3⟩ := bk4 BK19001.out))
 go_loopg [3, 11] k (fun kq v3 v11 w' => ∃ (x3_1 : List (S38)) (x11_1 : Int), v11 = .int .i64 x11_1 ∧ Aside0 (goods_Characters.l0 kq x3_1 l0_2 (l0_2.length : Int) x11_1 l0_0 l0_1 l0_2 a0_3 = some r) ∧ Aside0 (kq ≤ k) ∧ Aside0 (Kd.N k38 38 w' w.heap.size (fun k_ => (w.heap.size ≤ k_) ∧ k_ ≠ gb19001) v3 x3_1) ∧ Aside0 (w'.heap[gb19001]? = some (.cells #[(.slice A0_0 l0_0.length c0_0), (.slice A0_1 l0_1.length c0_1), (.slice A0_2 l0_2.length c0_2), .bool a0_3] 26 (0, 0))) ∧ Aside0 (Below w.heap.size w w'))
 case atStart => exact ⟨(([] : List (S38))), (0), rls, H', ⟨Nat.le_refl _⟩, ⟨by first | exact Kd.S_nil _ _ _ _ _ | exact Kd.N_nil _ _ _ _ _ | exact Kd.V_nil _ _ _ _ _ | exact Kd.Q_nil _ _ _ _ _ | exact Kd.R_nil _ _ _ _ _⟩, ⟨blk_ext BK19001.out⟩, ⟨below_extB HB.out⟩⟩
 case round =>
  clear H'
  try clear c1
  try clear p2
  try clear hcz3_0 hcz3_1 hcz3_2 hcz3_3
  try clear hfz3_0 hfz3_1 hfz3_2 hfz3_3
  obtain ⟨x3_1, x11_1, rfl, HA, HK1, HO_3, BK19001, HB⟩ := hrel
  cases gk with
  | zero => exact absurd HA.out (by simp [goods_Characters.l0])
  | succ k1 =>
   have H := HA.out
   clear HA
   simp only [goods_Characters.l0] at H
   by_cases c4 : x11_1 < (l0_2.length : Int)
   ·
    rw [if_pos c4] at H
    have c4b0 : decide (x11_1 < (l0_2.length : Int)) = true := decide_eq_true c4
    clear c4
    replace H := if_some H; obtain ⟨c5, H⟩ := H
    have c5b0 : decide (0 ≤ x11_1) = true := decide_eq_true c5
    clear c5
    replace H := if_some H; obtain ⟨c6, H⟩ := H
    have c6b0 : decide (x11_1 < (l0_2.length : Int)) = true := decide_eq_true c6
    clear c6
    replace H := Option.bind_eq_some_iff.mp H
    obtain ⟨t19004, A70, H⟩ := H
    try dsimp only at H
    have A7 := Aside0.mk A70
    clear A70
    replace H := if_some H; obtain ⟨c8, H⟩ := H
    have LMc8 := Aside0.mk c8
    clear c8
    obtain ⟨y19007, hy19007⟩ : ∃ y_ : List (S38), y_ = (x3_1 ++ [(⟨t19004, (rd_T38 l0_2 x11_1).f1⟩ : S38)]) := ⟨_, rfl⟩
    replace H : (goods_Characters.l0 k1 y19007 l0_2 (l0_2.length : Int) (wrap64 (x11_1 + 1)) l0_0 l0_1 l0_2 a0_3) = some r := by first | (rw [hy19007]; with_reducible exact H) | (have H2_ := (Option.bind_some _ _).symm.trans H; rw [hy19007]; with_reducible exact H2_) | (have H2_ := (Option.bind_some _ _).symm.trans H; with_reducible exact H2_) | with_reducible exact H | (rw [hy19007]; exact H) | exact H
    have Ny19007 := Aside0.mk hy19007
    clear hy19007
    have H' := Aside0.mk H
    clear H
    have p19002 : 0 ≤ (x11_1 : Int) := odt
    have q19002 : x11_1 < (l0_2.length : Int) := odt
    obtain ⟨ad19002, A19002_0, c19002_0, e19002, hx19002_0, hx19002_1, hl19002_0, hi19002_0⟩ := at_T38 HR0_2.out x11_1 p19002 q19002
    cases e19002
    (try replace hx19002_0 := (HB.out.cell (World.block_lt_of_cell? w _ hx19002_0)).trans hx19002_0)
    (try replace hx19002_1 := (HB.out.cell (World.block_lt_of_cell? w _ hx19002_1)).trans hx19002_1)
    have HR19002_0 := Aside0.mk hi19002_0
    have HC19002_0 := Aside0.mk hl19002_0
    clear hi19002_0 hl19002_0
    replace p19002 := eq_true p19002
    replace q19002 := eq_true q19002
    try go_wp2_with (first | ((with_reducible refine gate_dst (N := 5) rfl ?_); (try (refine gate_guard (by rfl) ?_; dsimp only)); refine box_event ?hg (N := 5) ?hd (cs := #[.slice none 0 0, .int .i64 0]) (t := 38) ?hr ?_; (case hd => rfl); (case hg => rfl); (case hr => exact goR); intro gb19003 hg w9 hbox hb; have BK19003 := Aside0.mk (hbox); have GW19003 := gwB hg HB; have GE19003 := GW19003; have NB19001_19003 := nbL hg BK19001; have NB19003_19001 := nbR hg BK19001; have GI19003 := GE_.mk GE19003.out; have NI19001_19003 := NE_.mk NB19001_19003.out; have NI19003_19001 := NE_.mk NB19003_19001.out; replace HO_3 := awN HO_3 hb gb19003 hg; replace BK19001 := mvB BK19001 hb; replace HB := mvH HB hb; clear hb hbox hg; have hnb10 := NB19003_19001.out; have hnc10 := NB19001_19003.out; obtain ⟨hcz11_0, hcz11_1, hfz11_0, hfz11_1⟩ := bk2 BK19003.out))
    (try simp only [setCell_drewN])
    have n0_ : Aside0 (Kd.N k38 38 ((w9.setCell ⟨gb19003, 0, none⟩ (.slice A19002_0 ((rd_T38 l0_2 x11_1).f0).length c19002_0)).setCell ⟨gb19003, 1, none⟩ (.int .i64 ((rd_T38 l0_2 x11_1).f1))) w.heap.size (fun k_ => (w.heap.size ≤ k_) ∧ k_ ≠ gb19001 ∧ k_ ≠ gb19003) u3 x3_1) := ⟨Kd.N_ext (Kd.N_mono (Kd.N_far (p := ⟨gb19003, 1, none⟩) (Kd.N_far (p := ⟨gb19003, 0, none⟩) (Kd.N_mono HO_3.out (fun k_ hk => (⟨hk, hk.2⟩ : _ ∧ k_ ≠ gb19003))) (fun _ hk => hk.2) (.slice A19002_0 ((rd_T38 l0_2 x11_1).f0).length c19002_0)) (fun _ hk => hk.2) (.int .i64 ((rd_T38 l0_2 x11_1).f1))) (fun _ hk => ⟨hk.1.1.1, ⟨hk.1.1.2, hk.1.2⟩⟩))⟩
    have n1_ : Aside0 (((w9.setCell ⟨gb19003, 0, none⟩ (.slice A19002_0 ((rd_T38 l0_2 x11_1).f0).length c19002_0)).setCell ⟨gb19003, 1, none⟩ (.int .i64 ((rd_T38 l0_2 x11_1).f1))).heap[gb19001]? = some (.cells #[.slice A0_0 l0_0.length c0_0, .slice A0_1 l0_1.length c0_1, .slice (some ad19002) l0_2.length c0_2, .bool a0_3] 26 (0, 0))) := ⟨blk_extC BK19001.out⟩
    have n2_ : Aside0 (((w9.setCell ⟨gb19003, 0, none⟩ (.slice A19002_0 ((rd_T38 l0_2 x11_1).f0).length c19002_0)).setCell ⟨gb19003, 1, none⟩ (.int .i64 ((rd_T38 l0_2 x11_1).f1))).heap[gb19003]? = some (.cells #[.slice A19002_0 ((rd_T38 l0_2 x11_1).f0).length c19002_0, .int .i64 ((rd_T38 l0_2 x11_1).f1)] 38 (0, 0))) := ⟨by (with_reducible repeat (first | refine blk_drewN ?_ _ | refine blk_drew ?_ | refine blk_alloc ?_ _)); refine blk_put (cs := #[.slice A19002_0 ((rd_T38 l0_2 x11_1).f0).length c19002_0, .int .i64 0]) ?_ 1 _ rfl; (with_reducible repeat (first | refine blk_drewN ?_ _ | refine blk_drew ?_ | refine blk_alloc ?_ _)); refine blk_put (cs := #[.slice none 0 0, .int .i64 0]) ?_ 0 _ rfl; exact blk_ext BK19003.out⟩
    have n3_ : Aside0 (Below w.heap.size w ((w9.setCell ⟨gb19003, 0, none⟩ (.slice A19002_0 ((rd_T38 l0_2 x11_1).f0).length c19002_0)).setCell ⟨gb19003, 1, none⟩ (.int .i64 ((rd_T38 l0_2 x11_1).f1)))) := ⟨below_extB HB.out⟩
    (try clear HO_3)
    (try clear BK19001)
    (try clear BK19003)
    (try clear HB)
    generalize ((w9.setCell ⟨gb19003, 0, none⟩ (.slice A19002_0 ((rd_T38 l0_2 x11_1).f0).length c19002_0)).setCell ⟨gb19003, 1, none⟩ (.int .i64 ((rd_T38 l0_2 x11_1).f1))) = w12 at n0_ n1_ n2_ n3_ ⊢
    have HO_3 := n0_
    have BK19001 := n1_
    have BK19003 := n2_
    have HB := n3_
    clear n0_ n1_ n2_ n3_
    (try (rw [drewN_self w12]; generalize hq_ : World.drewN w12 _ = w12; have n0_ := Aside0.mk (Kd.N_at hq_ HO_3.out); have n1_ := Aside0.mk (blk_at hq_ BK19001.out); have n2_ := Aside0.mk (blk_at hq_ BK19003.out); have n3_ := Aside0.mk (below_at hq_ HB.out); clear hq_ HO_3 BK19001 BK19003 HB; have HO_3 := n0_; have BK19001 := n1_; have BK19003 := n2_; have HB := n3_; clear n0_ n1_ n2_ n3_))
    replace HO_3 := Aside0.mk (Kd.N_drew HO_3.out)
    replace BK19001 := Aside0.mk (blk_drew BK19001.out)
    replace BK19003 := Aside0.mk (blk_drew BK19003.out)
    replace HB := Aside0.mk (below_drew1 HB.out)
    refine start_ (n := 10) (S := fun w' => w'.cell? ⟨gb19003, 0, none⟩ = some (.slice A19002_0 ((rd_T38 l0_2 x11_1).f0).length c19002_0) ∧ w'.cell? ⟨gb19003, 1, none⟩ = some (.int .i64 ((rd_T38 l0_2 x11_1).f1))) (ds := []) #[false, false, false, false, false, false, false, false, false, false] (by kernel_rfl) rfl rfl ⟨bc BK19003 0, bc BK19003 1⟩ (fun hHeld => ?_); refine with_tabW goods_Characters.tab5 goods_Characters.bits5 (fun HT_ HW_ => ?_)
    generalize w12.drew = w13 at HO_3 BK19001 BK19003 HB hHeld ⊢
    refine purE 0 (some 15) HT_ ?_
    refine purE 1 (some 16) HT_ ?_
    refine purE 4 (some 19) HT_ ?_
    refine tkE 2 (some 17) HT_ HW_ hHeld ?_ (hy := by rintro w' ⟨s0, s1⟩; go_simp; with_reducible rfl)
    refine tkE 5 (some 20) HT_ HW_ hHeld ?_ (hy := by rintro w' ⟨s0, s1⟩; go_simp; with_reducible rfl)
    refine oneE 3 (some 18) HT_ (fun K hK => ?_)
    refine goes_ Tryd.func42 (by kernel_rfl) rfl #[.slice A19002_0 ((rd_T38 l0_2 x11_1).f0).length c19002_0] (by rfl) rfl rfl goB ?_
    with_reducible refine (slices_Clone_string_string.calls _ _ ((rd_T38 l0_2 x11_1).f0) t19004 _ ?side1 ?side2 A7.out).mono ?_
    (case side1 => repeat (first | exact (Kd.C_below HR19002_0.out HB.out) | (with_reducible refine Kd.C_alloc ?_ _) | (with_reducible refine Kd.C_drewN ?_ _) | (with_reducible refine Kd.C_drew ?_)))
    (case side2 => exact HC19002_0.out)
    rintro e w14 ⟨v19005, rfl, ho0, hb⟩
    refine ⟨_, rfl, ?_⟩
    have HO19006 := Aside0.mk (Kd.R_lower (Kd.R_newM (M := fun k_ => (w.heap.size ≤ k_)) ho0 (below_size (below_extB HB.out)) (fun k_ h_ => h_)) (below_size (below_extB HB.out)))
    replace BK19003 := Aside0.mk (blk_below (g := gb19003) (o := .cells #[.slice A19002_0 ((rd_T38 l0_2 x11_1).f0).length c19002_0, .int .i64 ((rd_T38 l0_2 x11_1).f1)] 38 (0, 0)) (blk_ext BK19003.out) hb)
    replace HO_3 := apN HO_3 hb (Kd.R_base ho0)
    replace BK19001 := mvB BK19001 hb
    replace HB := mvH HB hb
    (try clear hb)
    (try clear hb2)
    (try clear hk)
    (try clear hi)
    (try clear ho0)
    obtain ⟨Ao15, co15, eo15⟩ := Kd.R_slice HO19006.out
    (first | subst eo15 | (injection eo15 with f1_ f2_ f3_; have f4_ := f1_.symm; have f5_ := f3_.symm; clear f1_ f2_ f3_; subst f4_; subst f5_))
    refine hK.out _ _ ⟨bc BK19003 0, bc BK19003 1⟩ (fun hHeld => ?_)
    clear hK K
    refine nrmE (some 18) ?_
    refine purE 6 (some 21) HT_ ?_
    refine oneE 7 (some 22) HT_ (fun K hK => ?_)
    refine value_ (w1 := ?_) (v := ?_) (by rfl) rfl ?_ ?_
    rotate_left 2
    ·
     go_simp
     constructor
     ·
      rfl
     ·
      rfl
    refine hK.out _ _ ⟨(blk_cell (blk_alloc BK19003.out _) 0).trans rfl, (blk_cell (blk_alloc BK19003.out _) 1).trans rfl⟩ (fun hHeld => ?_)
    clear hK K
    refine nrmE (some 22) ?_
    refine oneE 8 (some 23) HT_ (fun K hK => ?_)
    refine Kd.N_append_step k38 (w0 := w) w.heap.size (by rfl) (.tmp 15) (.tmp 22) 24 38 (.agg #[(.slice none 0 0), (.int .i64 0)]) 32 rfl Tryd.underlying24 info38 rfl (by decide) (by omega) u3 x3_1 (⟨t19004, (rd_T38 l0_2 x11_1).f1⟩ : S38) [.slice Ao15 t19004.length co15, .int .i64 ((rd_T38 l0_2 x11_1).f1)] (fun k_ => (w.heap.size ≤ k_) ∧ k_ ≠ gb19001 ∧ k_ ≠ gb19003) (fun k_ => ((fun k_ => (w.heap.size ≤ k_) ∧ k_ ≠ gb19001 ∧ k_ ≠ gb19003)) k_ ∧ some k_ ≠ (u3 : Value).ownBlock) rfl rfl ?aP (fun _ hk => hk) ?aF ?aO ?aB ?aS ?aL ?_
    (case aP => exact (k38_mkF _ _ (⟨t19004, (rd_T38 l0_2 x11_1).f1⟩ : S38) (Kd.R_reads' (Kd.R_mono (ok' := (fun k_ => ((fun k_ => (w.heap.size ≤ k_) ∧ k_ ≠ gb19001 ∧ k_ ≠ gb19003)) k_ ∧ some k_ ≠ (u3 : Value).ownBlock)) (Kd.R_types (Kd.R_types (Kd.R_apart' (HO19006.out) (Kd.N_typed HO_3.out) (by decide)) BK19001.out (by decide)) BK19003.out (by decide)) (fun k_ hk => ⟨⟨hk.1.1.1.1, ⟨hk.1.2, hk.2⟩⟩, hk.1.1.2⟩))).2.1 (Kd.R_F (Kd.R_mono (ok' := (fun k_ => ((fun k_ => (w.heap.size ≤ k_) ∧ k_ ≠ gb19001 ∧ k_ ≠ gb19003)) k_ ∧ some k_ ≠ (u3 : Value).ownBlock)) (Kd.R_types (Kd.R_types (Kd.R_apart' (HO19006.out) (Kd.N_typed HO_3.out) (by decide)) BK19001.out (by decide)) BK19003.out (by decide)) (fun k_ hk => ⟨⟨hk.1.1.1.1, ⟨hk.1.2, hk.2⟩⟩, hk.1.1.2⟩)))))
    (case aB => exact (below_extB HB.out))
    (case aF => exact (fun k_ hk => ⟨(Nat.le_trans (below_size (below_extB HB.out)) hk), Kd.freshB (g := gb19001) (o := .cells #[.slice A0_0 l0_0.length c0_0, .slice A0_1 l0_1.length c0_1, .slice (some ad19002) l0_2.length c0_2, .bool a0_3] 26 (0, 0)) (blk_ext BK19001.out) k_ hk, Kd.freshB (g := gb19003) (o := .cells #[.slice A19002_0 ((rd_T38 l0_2 x11_1).f0).length c19002_0, .int .i64 ((rd_T38 l0_2 x11_1).f1)] 38 (0, 0)) (blk_ext BK19003.out) k_ hk⟩))
    (case aO => exact (Kd.N_ext (Kd.N_mono HO_3.out (fun _ hk => ⟨hk.1.1, ⟨hk.1.2.1, hk.1.2.2⟩⟩))))
    (case aS => exact (below_size (below_extB HB.out)))
    (case aL => have := LMc8.out; omega)
    intro v19008 w16 ho hb hg hat
    rw [← Ny19007.out] at ho
    replace BK19001 := Aside0.mk (blk_grown (g := gb19001) (o := .cells #[.slice A0_0 l0_0.length c0_0, .slice A0_1 l0_1.length c0_1, .slice (some ad19002) l0_2.length c0_2, .bool a0_3] 26 (0, 0)) (blk_ext BK19001.out) hg (Kd.N_ne HO_3.out BK19001.out (by decide)))
    replace BK19003 := Aside0.mk (blk_grown (g := gb19003) (o := .cells #[.slice A19002_0 ((rd_T38 l0_2 x11_1).f0).length c19002_0, .int .i64 ((rd_T38 l0_2 x11_1).f1)] 38 (0, 0)) (blk_ext BK19003.out) hg (Kd.N_away HO_3.out (fun _ hk => hk.1.2.2)))
    replace HB := Aside0.mk (hb)
    have HO19009 := Aside0.mk (ho)
    clear HO_3
    clear HO19006
    clear ho hb hg hat
    refine hK.out _ _ ⟨bc BK19003 0, bc BK19003 1⟩ (fun hHeld => ?_)
    clear hK K
    refine nrmE (some 23) ?_
    refine purE 9 (some 3) HT_ ?_
    refine done_ (done_of HT_.out (by kernel_rfl)) ?_
    try go_wp2
    go_roundg k1
    case measure => have := HK1.out; omega
    case rel => exact ⟨(y19007), (wrap64 (x11_1 + 1)), rls, H', ⟨by have := HK1.out; omega⟩, ⟨Kd.N_ext (Kd.N_mono HO19009.out (fun _ hk => ⟨hk.1, hk.2.1⟩))⟩, ⟨blk_ext BK19001.out⟩, ⟨below_extB HB.out⟩⟩
   ·
    rw [if_neg c4] at H
    have c4b0 : decide (x11_1 < (l0_2.length : Int)) = false := decide_eq_false c4
    clear c4
    have H' := Aside0.mk H
    clear H
    go_wp2
    go_loopg [3, 6] k1 (fun kq v3 v6 w' => ∃ (x3_2 : List (S38)) (x6_2 : Int), v6 = .int .i64 x6_2 ∧ Aside0 (goods_Characters.l1 kq x3_2 x6_2 l0_0 l0_1 l0_2 a0_3 = some r) ∧ Aside0 (kq ≤ k1) ∧ Aside0 (Kd.N k38 38 w' w.heap.size (fun k_ => (w.heap.size ≤ k_) ∧ k_ ≠ gb19001) v3 x3_2) ∧ Aside0 (w'.heap[gb19001]? = some (.cells #[(.slice A0_0 l0_0.length c0_0), (.slice A0_1 l0_1.length c0_1), (.slice A0_2 l0_2.length c0_2), .bool a0_3] 26 (0, 0))) ∧ Aside0 (Below w.heap.size w w'))
    case atStart => exact ⟨(x3_1), (0), rls, H', ⟨Nat.le_refl _⟩, ⟨Kd.N_ext HO_3.out⟩, ⟨blk_ext BK19001.out⟩, ⟨below_extB HB.out⟩⟩
    case round =>
     clear H'
     try clear c1
     try clear p1
     try clear q1
     try clear hx1
     try clear p2
     try clear c4
     try clear c4b0
     try clear c5
     try clear c5b0
     try clear c6
     try clear c6b0
     try clear p6
     try clear c8
     try clear c10
     try clear hcz11_0 hcz11_1
     try clear hcz3_0 hcz3_1 hcz3_2 hcz3_3
     try clear hfz11_0 hfz11_1
     try clear hfz3_0 hfz3_1 hfz3_2 hfz3_3
     try clear hx19002_0
     try clear hx19002_1
     try clear p19002
     try clear p2
     try clear q19002
     obtain ⟨x3_2, x6_2, rfl, HA, HK2, HO_3, BK19001, HB⟩ := hrel
     cases gk with
     | zero => exact absurd HA.out (by simp [goods_Characters.l1])
     | succ k2 =>
      have H := HA.out
      clear HA
      simp only [goods_Characters.l1] at H
      by_cases c17 : (l0_2.length : Int) = 0
      ·
       rw [if_pos c17] at H
       have c17b0 : ((l0_2.length : Int) == 0) = true := beq_iff_eq.mpr c17
       have c17b1 : ((l0_2.length : Int) != 0) = false := bne_eq_false_iff_eq.mpr c17
       clear c17
       by_cases c18 : x6_2 < (l0_1.length : Int)
       ·
        rw [if_pos c18] at H
        have c18b0 : decide (x6_2 < (l0_1.length : Int)) = true := decide_eq_true c18
        clear c18
        replace H := if_some H; obtain ⟨c19, H⟩ := H
        have c19b0 : decide (0 ≤ x6_2) = true := decide_eq_true c19
        clear c19
        obtain ⟨y19012, hy19012⟩ : ∃ y_ : List ByteArray, y_ = (([(rd_T36 l0_1 x6_2).f0] : List ByteArray)) := ⟨_, rfl⟩
        replace H : (if x3_2.length < 4398046511104 then (goods_Characters.l1 k2 (x3_2 ++ [(⟨y19012, (rd_T36 l0_1 x6_2).f1⟩ : S38)]) (wrap64 (x6_2 + 1)) l0_0 l0_1 l0_2 a0_3) else (none)) = some r := by first | (rw [hy19012]; with_reducible exact H) | (have H2_ := (Option.bind_some _ _).symm.trans H; rw [hy19012]; with_reducible exact H2_) | (have H2_ := (Option.bind_some _ _).symm.trans H; with_reducible exact H2_) | with_reducible exact H | (rw [hy19012]; exact H) | exact H
        have Ny19012 := Aside0.mk hy19012
        clear hy19012
        replace H := if_some H; obtain ⟨c20, H⟩ := H
        have LMc20 := Aside0.mk c20
        clear c20
        obtain ⟨y19015, hy19015⟩ : ∃ y_ : List (S38), y_ = (x3_2 ++ [(⟨y19012, (rd_T36 l0_1 x6_2).f1⟩ : S38)]) := ⟨_, rfl⟩
        replace H : (goods_Characters.l1 k2 y19015 (wrap64 (x6_2 + 1)) l0_0 l0_1 l0_2 a0_3) = some r := by first | (rw [hy19015]; with_reducible exact H) | (have H2_ := (Option.bind_some _ _).symm.trans H; rw [hy19015]; with_reducible exact H2_) | (have H2_ := (Option.bind_some _ _).symm.trans H; with_reducible exact H2_) | with_reducible exact H | (rw [hy19015]; exact H) | exact H
        have Ny19015 := Aside0.mk hy19015
        clear hy19015
        have H' := Aside0.mk H
        clear H
        obtain ⟨hcz21_0, hcz21_1, hcz21_2, hcz21_3, hfz21_0, hfz21_1, hfz21_2, hfz21_3⟩ := bk4 BK19001.out
        have p19010 : 0 ≤ (x6_2 : Int) := odt
        have q19010 : x6_2 < (l0_1.length : Int) := odt
        obtain ⟨ad19010, e19010, hx19010_0, hx19010_1⟩ := at_T36 HR0_1.out x6_2 p19010 q19010
        cases e19010
        (try replace hx19010_0 := (HB.out.cell (World.block_lt_of_cell? w _ hx19010_0)).trans hx19010_0)
        (try replace hx19010_1 := (HB.out.cell (World.block_lt_of_cell? w _ hx19010_1)).trans hx19010_1)
        replace p19010 := eq_true p19010
        replace q19010 := eq_true q19010
        go_wp2_with (first | ((with_reducible refine gate_dst (N := 7) rfl ?_); (try (refine gate_guard (by rfl) ?_; dsimp only)); refine box_event ?hg (N := 7) ?hd (cs := #[.string (⟨#[]⟩ : ByteArray), .int .i64 0]) (t := 36) ?hr ?_; (case hd => rfl); (case hg => rfl); (case hr => exact goR); intro gb19011 hg w22 hbox hb; have BK19011 := Aside0.mk (hbox); have GW19011 := gwB hg HB; have GE19011 := GW19011; have NB19001_19011 := nbL hg BK19001; have NB19011_19001 := nbR hg BK19001; have GI19011 := GE_.mk GE19011.out; have NI19001_19011 := NE_.mk NB19001_19011.out; have NI19011_19001 := NE_.mk NB19011_19001.out; replace HO_3 := awN HO_3 hb gb19011 hg; replace BK19001 := mvB BK19001 hb; replace HB := mvH HB hb; clear hb hbox hg; have hnb23 := NB19011_19001.out; have hnc23 := NB19001_19011.out; obtain ⟨hcz24_0, hcz24_1, hfz24_0, hfz24_1⟩ := bk2 BK19011.out) | ((with_reducible refine gate_dst (N := 46) rfl ?_); (try (refine gate_guard (by rfl) ?_; dsimp only)); refine Kd.R_lit Kd.string _ 9 ?hg (N := 46) ?hd (xs := ([(rd_T36 l0_1 x6_2).f0] : List ByteArray)) (inner := [.string ((rd_T36 l0_1 x6_2).f0)]) (ok := fun _ => True) (okp := fun _ => True) ?hr ?hp (fun _ hk => hk) trivial (Below.refl _ _) (Nat.le_refl _) (by simp) ?_; (case hd => rfl); (case hg => rfl); (case hr => exact goR); (case hp => exact (Reps.one (show Kd.M Kd.string _ _ _ ((rd_T36 l0_1 x6_2).f0) [.string ((rd_T36 l0_1 x6_2).f0)] from rfl) (Reps.none _ _))); intro v19013 w25 ho26 hb hg_ hnew_; clear hg_ hnew_; (first | rw [← Ny19012.out] at ho26 | (simp only [Int.reduceToNat] at ho26; rw [← Ny19012.out] at ho26)); replace HO_3 := Aside0.mk (Kd.N_elder' (Kd.N_ext ((Kd.N_mono (Kd.N_far (p := ⟨gb19011, 1, none⟩) (Kd.N_far (p := ⟨gb19011, 0, none⟩) (Kd.N_mono HO_3.out (fun k_ hk => (⟨hk, hk.2⟩ : _ ∧ k_ ≠ gb19011))) (fun _ hk => hk.2) (.string ((rd_T36 l0_1 x6_2).f0))) (fun _ hk => hk.2) (.int .i64 ((rd_T36 l0_1 x6_2).f1))) (fun _ h_ => h_.1)))) (Kd.R_base ho26) hb); have HO19014 := Aside0.mk (Kd.R_lower (Kd.R_newM (M := fun k_ => (w.heap.size ≤ k_)) ho26 (below_size (below_extB HB.out)) (fun k_ h_ => h_)) (below_size (below_extB HB.out))); replace BK19001 := Aside0.mk (blk_below (blk_extC BK19001.out) hb); replace BK19011 := Aside0.mk (blk_below (g := gb19011) (o := .cells #[.string ((rd_T36 l0_1 x6_2).f0), .int .i64 ((rd_T36 l0_1 x6_2).f1)] 36 (0, 0)) (by (with_reducible repeat (first | refine blk_drewN ?_ _ | refine blk_drew ?_ | refine blk_alloc ?_ _)); refine blk_put (cs := #[.string ((rd_T36 l0_1 x6_2).f0), .int .i64 0]) ?_ 1 _ rfl; (with_reducible repeat (first | refine blk_drewN ?_ _ | refine blk_drew ?_ | refine blk_alloc ?_ _)); refine blk_put (cs := #[.string (⟨#[]⟩ : ByteArray), .int .i64 0]) ?_ 0 _ rfl; exact blk_ext BK19011.out) hb); replace HB := mvH HB hb; clear hb ho26; obtain ⟨hcz27_0, hcz27_1, hfz27_0, hfz27_1⟩ := bk2 BK19011.out; obtain ⟨Ao28, co28, eo28⟩ := Kd.R_slice HO19014.out; subst eo28) | ((with_reducible refine gate_builtin (b := .append) (xs := #[.tmp 43, .tmp 50]) rfl ?_); (try (refine gate_guard (by rfl) ?_; dsimp only)); at_builtin; refine Kd.N_append k38 (w0 := w) w.heap.size rfl (.tmp 43) (.tmp 50) 24 38 (.agg #[(.slice none 0 0), (.int .i64 0)]) 32 rfl Tryd.underlying24 info38 rfl (by decide) (by omega) u3 x3_2 (⟨y19012, (rd_T36 l0_1 x6_2).f1⟩ : S38) [.slice Ao28 y19012.length co28, .int .i64 ((rd_T36 l0_1 x6_2).f1)] (fun k_ => (w.heap.size ≤ k_) ∧ k_ ≠ gb19001 ∧ k_ ≠ gb19011) (fun k_ => ((fun k_ => (w.heap.size ≤ k_) ∧ k_ ≠ gb19001 ∧ k_ ≠ gb19011)) k_ ∧ some k_ ≠ (u3 : Value).ownBlock) rfl rfl ?aP (fun _ hk => hk) ?aF ?aO ?aB ?aS ?aL ?_; (case aP => exact (k38_mkF _ _ (⟨y19012, (rd_T36 l0_1 x6_2).f1⟩ : S38) (Kd.R_reads' (Kd.R_mono (ok' := (fun k_ => ((fun k_ => (w.heap.size ≤ k_) ∧ k_ ≠ gb19001 ∧ k_ ≠ gb19011)) k_ ∧ some k_ ≠ (u3 : Value).ownBlock)) (Kd.R_types (Kd.R_types (Kd.R_apart' (HO19014.out) (Kd.N_typed HO_3.out) (by decide)) BK19001.out (by decide)) BK19011.out (by decide)) (fun k_ hk => ⟨⟨hk.1.1.1.1, ⟨hk.1.2, hk.2⟩⟩, hk.1.1.2⟩))).2.1 (Kd.R_F (Kd.R_mono (ok' := (fun k_ => ((fun k_ => (w.heap.size ≤ k_) ∧ k_ ≠ gb19001 ∧ k_ ≠ gb19011)) k_ ∧ some k_ ≠ (u3 : Value).ownBlock)) (Kd.R_types (Kd.R_types (Kd.R_apart' (HO19014.out) (Kd.N_typed HO_3.out) (by decide)) BK19001.out (by decide)) BK19011.out (by decide)) (fun k_ hk => ⟨⟨hk.1.1.1.1, ⟨hk.1.2, hk.2⟩⟩, hk.1.1.2⟩))))); (case aB => exact (below_extB HB.out)); (case aF => exact (fun k_ hk => ⟨(Nat.le_trans (below_size (below_extB HB.out)) hk), Kd.freshB (g := gb19001) (o := .cells #[.slice A0_0 l0_0.length c0_0, .slice (some ad19010) l0_1.length c0_1, .slice A0_2 l0_2.length c0_2, .bool a0_3] 26 (0, 0)) (blk_ext BK19001.out) k_ hk, Kd.freshB (g := gb19011) (o := .cells #[.string ((rd_T36 l0_1 x6_2).f0), .int .i64 ((rd_T36 l0_1 x6_2).f1)] 36 (0, 0)) (blk_ext BK19011.out) k_ hk⟩)); (case aO => exact (Kd.N_ext (Kd.N_mono HO_3.out (fun _ hk => ⟨hk.1.1.1, ⟨hk.1.1.2, hk.1.2⟩⟩)))); (case aS => exact (below_size (below_extB HB.out))); (case aL => have := LMc20.out; omega); intro v19016 w29 ho hb hg hat; rw [← Ny19015.out] at ho; replace BK19001 := Aside0.mk (blk_grown (g := gb19001) (o := .cells #[.slice A0_0 l0_0.length c0_0, .slice (some ad19010) l0_1.length c0_1, .slice A0_2 l0_2.length c0_2, .bool a0_3] 26 (0, 0)) (blk_ext BK19001.out) hg (Kd.N_ne HO_3.out BK19001.out (by decide))); replace BK19011 := Aside0.mk (blk_grown (g := gb19011) (o := .cells #[.string ((rd_T36 l0_1 x6_2).f0), .int .i64 ((rd_T36 l0_1 x6_2).f1)] 36 (0, 0)) (blk_ext BK19011.out) hg (Kd.N_ne HO_3.out BK19011.out (by decide))); replace HB := Aside0.mk (hb); have HO19017 := Aside0.mk (ho); clear HO_3; clear HO19014; clear ho hb hg hat))
        go_roundg k2
        case measure => have := HK1.out; have := HK2.out; omega
        case rel => exact ⟨(y19015), (wrap64 (x6_2 + 1)), rls, H', ⟨by have := HK1.out; have := HK2.out; omega⟩, ⟨Kd.N_ext (Kd.N_mono HO19017.out (fun _ hk => ⟨hk.1, hk.2.1⟩))⟩, ⟨blk_ext BK19001.out⟩, ⟨below_extB HB.out⟩⟩
       ·
        rw [if_neg c18] at H
        have c18b0 : decide (x6_2 < (l0_1.length : Int)) = false := decide_eq_false c18
        clear c18
        replace H := Option.bind_eq_some_iff.mp H
        obtain ⟨t19018, A300, H⟩ := H
        try dsimp only at H
        have A30 := Aside0.mk A300
        clear A300
        obtain rfl := Option.some.inj H
        obtain ⟨hcz31_0, hcz31_1, hcz31_2, hcz31_3, hfz31_0, hfz31_1, hfz31_2, hfz31_3⟩ := bk4 BK19001.out
        obtain ⟨Ao32, co32, eo32⟩ := Kd.N_slice HO_3.out
        subst eo32
        go_wp2_with (first | ((with_reducible refine gate_callee (f := 43) rfl ?_); refine goesL_ (some 53) rfl rfl Tryd.func43 (by kernel_rfl) rfl #[.slice Ao32 x3_2.length co32, .func (.func 44) #[] #[]] rfl goA ?_; (with_reducible refine (api_Component_43.calls (fun k_ => (((w.heap.size ≤ k_)) ∧ k_ ≠ gb19001)) (.slice Ao32 x3_2.length co32) x3_2 t19018 w _ ?side1 ?side2 A30.out).mono ?_); (case side1 => repeat (first | (with_reducible first | exact HB.out | apply bA | apply bN | apply b1 | refine bS ?_ GE19001.out) | exact HB.out)); (case side2 => exact Kd.N_ext HO_3.out); rintro e w33 ⟨rfl, hy0, hb, hkp⟩; refine ⟨_, rfl, ?_⟩; have n0_ := Aside0.mk (hy0); replace BK19001 := Aside0.mk (blk_kept (blk_ext BK19001.out) hkp (fun hs_ => (fun e_ => (Kd.N_ne HO_3.out BK19001.out (by decide)) e_) hs_)); replace HB := Aside0.mk (hb); clear HO_3; have HO_3 := n0_; clear n0_; (try clear hb); (try clear hkp); (try clear hy0)))
        go_ret
        exact ⟨_, by first | rfl | (simp [errW_none, errW_some] <;> rfl) | (simp [*, errW_none, errW_some] <;> rfl), Kd.N_ext (Kd.N_mono HO_3.out (fun _ hk => hk.1)), below_extB HB.out⟩
      ·
       rw [if_neg c17] at H
       have c17b0 : ((l0_2.length : Int) == 0) = false := beq_eq_false_iff_ne.mpr c17
       have c17b1 : ((l0_2.length : Int) != 0) = true := bne_iff_ne.mpr c17
       have c17b2 : ¬ (l0_2 = []) := fun h_ => c17 (by rw [h_]; rfl)
       replace H := Option.bind_eq_some_iff.mp H
       obtain ⟨t19019, A340, H⟩ := H
       try dsimp only at H
       have A34 := Aside0.mk A340
       clear A340
       obtain rfl := Option.some.inj H
       obtain ⟨hcz35_0, hcz35_1, hcz35_2, hcz35_3, hfz35_0, hfz35_1, hfz35_2, hfz35_3⟩ := bk4 BK19001.out
       obtain ⟨Ao36, co36, eo36⟩ := Kd.N_slice HO_3.out
       subst eo36
       go_wp2_with (first | ((with_reducible refine gate_callee (f := 43) rfl ?_); refine goesL_ (some 53) rfl rfl Tryd.func43 (by kernel_rfl) rfl #[.slice Ao36 x3_2.length co36, .func (.func 44) #[] #[]] rfl goA ?_; (with_reducible refine (api_Component_43.calls (fun k_ => (((w.heap.size ≤ k_)) ∧ k_ ≠ gb19001)) (.slice Ao36 x3_2.length co36) x3_2 t19019 w _ ?side1 ?side2 A34.out).mono ?_); (case side1 => repeat (first | (with_reducible first | exact HB.out | apply bA | apply bN | apply b1 | refine bS ?_ GE19001.out) | exact HB.out)); (case side2 => exact Kd.N_ext HO_3.out); rintro e w37 ⟨rfl, hy0, hb, hkp⟩; refine ⟨_, rfl, ?_⟩; have n0_ := Aside0.mk (hy0); replace BK19001 := Aside0.mk (blk_kept (blk_ext BK19001.out) hkp (fun hs_ => (fun e_ => (Kd.N_ne HO_3.out BK19001.out (by decide)) e_) hs_)); replace HB := Aside0.mk (hb); clear HO_3; have HO_3 := n0_; clear n0_; (try clear hb); (try clear hkp); (try clear hy0)))
       go_ret
       exact ⟨_, by first | rfl | (simp [errW_none, errW_some] <;> rfl) | (simp [*, errW_none, errW_some] <;> rfl), Kd.N_ext (Kd.N_mono HO_3.out (fun _ hk => hk.1)), below_extB HB.out⟩

end Go.Proofs.YtoolggpfgadjlaaDoor.Z
