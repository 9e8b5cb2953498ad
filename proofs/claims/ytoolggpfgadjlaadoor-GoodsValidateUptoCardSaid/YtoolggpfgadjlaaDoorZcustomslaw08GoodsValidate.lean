/- Written by a program of this session: each Go function as a plain Lean function, and that the machine's call does what it says. Conditions: none but those each theorem states. -/
import Derived.Test.YtoolggpfgadjlaaDoorZ0
import Derived.Test.YtoolggpfgadjlaaDoorZcustomslaw08small
import Derived.Test.YtoolggpfgadjlaaDoorZcustomsmadeWithin
import Derived.Test.YtoolggpfgadjlaaDoorZcustomsmadeGood
import Derived.Test.YtoolggpfgadjlaaDoorZgoodsValidate
import Derived.Test.YtoolggpfgadjlaaDoorZcustomsref08Good
import Derived.Test.YtoolggpfgadjlaaDoorZcustomslaw08awake
namespace Go.Proofs.YtoolggpfgadjlaaDoor.Z
open Go.RowKit Go.Proofs.YtoolggpfgadjlaaDoorW.PrintWords Go.Proofs.YtoolggpfgadjlaaDoorW.PrintLast Go.Proofs.YtoolggpfgadjlaaDoorW.PrintMore
attribute [local go_sem high] str_leq str_geq str_gtr   -- strings
attribute [local go_sem] max2_int min2_int max_two min_two max_three min_three max_four min_four   -- for this text's walks alone
set_option linter.unusedVariables false
set_option linter.unusedSimpArgs false

/-! ### customslaw08_GoodsValidate: function 3 -/
def customslaw08_GoodsValidate.j0 : Nat → Int → Bool → List ByteArray → List (S36) → List (S38) → Bool → List ByteArray → List (S36) → List (S38) → Bool → Option (Bool)
 | 0, _, _, _, _, _, _, _, _, _, _ => none
 | k + 1, x2, x21, x3002000, x3002001, x3002002, x3002003, x3023000, x3023001, x3023002, x3023003 => if x21 = true then (none) else ((customsmade_Within.f x2 3).bind fun t3026 => (if t3026 = 0 then ((goods_Validate.f k x3002000 x3023001 x3023002 x3023003).bind fun t3027 => ((customsref08_Good.f k x3002000 x3023001 x3023002 x3023003).bind fun t3028 => (if t3027 = t3028 then ((customslaw08_awake.f k).bind fun t3029 => (some t3029)) else (none)))) else (if t3026 = 1 then ((goods_Validate.f k x3023000 x3002001 x3023002 x3023003).bind fun t3030 => ((customsref08_Good.f k x3023000 x3002001 x3023002 x3023003).bind fun t3031 => (if t3030 = t3031 then ((customslaw08_awake.f k).bind fun t3032 => (some t3032)) else (none)))) else ((goods_Validate.f k x3023000 x3023001 x3002002 x3023003).bind fun t3033 => ((customsref08_Good.f k x3023000 x3023001 x3002002 x3023003).bind fun t3034 => (if t3033 = t3034 then ((customslaw08_awake.f k).bind fun t3035 => (some t3035)) else (none)))))))
def customslaw08_GoodsValidate.f (k : Nat) (l0_0 : List ByteArray) (l0_1 : List (S36)) (l0_2 : List (S38)) (a0_3 : Bool) (l1 : List Int) (a2 : Int) : Option (Bool) := (customslaw08_small.f l0_0 l0_1 l0_2 a0_3).bind fun bt3002 => ((customsmade_Good.f k l1).bind fun bt3012 => ((goods_Validate.f k bt3002.1 bt3002.2.1 bt3002.2.2.1 bt3002.2.2.2).bind fun t3023 => ((customsref08_Good.f k bt3002.1 bt3002.2.1 bt3002.2.2.1 bt3002.2.2.2).bind fun t3024 => (if t3023 = t3024 then ((goods_Validate.f k bt3012.1 bt3012.2.1 bt3012.2.2.1 bt3012.2.2.2).bind fun t3025 => (customslaw08_GoodsValidate.j0 k a2 (t3025 != 0) bt3002.1 bt3002.2.1 bt3002.2.2.1 bt3002.2.2.2 bt3012.1 bt3012.2.1 bt3012.2.2.1 bt3012.2.2.2)) else (customslaw08_GoodsValidate.j0 k a2 true bt3002.1 bt3002.2.1 bt3002.2.2.1 bt3002.2.2.2 bt3012.1 bt3012.2.1 bt3012.2.2.1 bt3012.2.2.2)))))
theorem customslaw08_GoodsValidate.mono_l : ∀ k, (∀ y0 y1 y2 y3 y4 y5 y6 y7 y8 y9, LeO (customslaw08_GoodsValidate.j0 k y0 y1 y2 y3 y4 y5 y6 y7 y8 y9) (customslaw08_GoodsValidate.j0 (k + 1) y0 y1 y2 y3 y4 y5 y6 y7 y8 y9))
 | 0 => fun _ _ _ _ _ _ _ _ _ _ r h => by simp [customslaw08_GoodsValidate.j0] at h
 | k + 1 => by
  have ih0 := customslaw08_GoodsValidate.mono_l k
  ·
   intro y0 y1 y2 y3 y4 y5 y6 y7 y8 y9
   unfold customslaw08_GoodsValidate.j0
   repeat' first
   | (with_reducible exact ih0 _ _ _ _ _ _ _ _ _ _)
   | (with_reducible exact customslaw08_awake.mono _)
   | (with_reducible exact customsmade_Good.mono _ _)
   | (with_reducible exact customsref08_Good.mono _ _ _ _ _)
   | (with_reducible exact goods_Validate.mono _ _ _ _ _)
   | (with_reducible exact LeO.refl _)
   | (with_reducible exact LeO.none _)
   | (with_reducible refine LeO.ite ?_ ?_)
   | (with_reducible refine LeO.bind ?_ (fun _ => ?_))
   | exact ih0 _ _ _ _ _ _ _ _ _ _
   | exact customslaw08_awake.mono _
   | exact customsmade_Good.mono _ _
   | exact customsref08_Good.mono _ _ _ _ _
   | exact goods_Validate.mono _ _ _ _ _
   | exact LeO.none _
   | refine LeO.ite ?_ ?_
   | refine LeO.bind ?_ (fun _ => ?_)
theorem customslaw08_GoodsValidate.mono : ∀ a0 a1 a2 a3 a4 a5 k, LeO (customslaw08_GoodsValidate.f k a0 a1 a2 a3 a4 a5) (customslaw08_GoodsValidate.f (k + 1) a0 a1 a2 a3 a4 a5) := by
 intro a0 a1 a2 a3 a4 a5 k
 have ih0 := customslaw08_GoodsValidate.mono_l k
 unfold customslaw08_GoodsValidate.f
 repeat' first
   | (with_reducible exact ih0 _ _ _ _ _ _ _ _ _ _)
   | (with_reducible exact customslaw08_awake.mono _)
   | (with_reducible exact customsmade_Good.mono _ _)
   | (with_reducible exact customsref08_Good.mono _ _ _ _ _)
   | (with_reducible exact goods_Validate.mono _ _ _ _ _)
   | (with_reducible exact LeO.refl _)
   | (with_reducible exact LeO.none _)
   | (with_reducible refine LeO.ite ?_ ?_)
   | (with_reducible refine LeO.bind ?_ (fun _ => ?_))
   | exact ih0 _ _ _ _ _ _ _ _ _ _
   | exact customslaw08_awake.mono _
   | exact customsmade_Good.mono _ _
   | exact customsref08_Good.mono _ _ _ _ _
   | exact goods_Validate.mono _ _ _ _ _
   | exact LeO.none _
   | refine LeO.ite ?_ ?_
   | refine LeO.bind ?_ (fun _ => ?_)
def customslaw08_GoodsValidate.T3 : Bool × List (List Nat × List Nat) := (true, [([], []), ([0], [0]), ([], []), ([2, 1], [2]), ([1, 3], [1, 3]), ([4, 3], [4]), ([5], [5]), ([6, 5, 5], [5, 6]), ([7, 5], [5, 7]), ([5, 8], [5, 8])])
def customslaw08_GoodsValidate.B3 : List Nat := [0, 1, 0, 7, 15, 31, 63, 127, 255, 511]
theorem customslaw08_GoodsValidate.tab3 : rtab .any (opsOf Tryd.f3 3) = customslaw08_GoodsValidate.T3 := by kernel_rfl
theorem customslaw08_GoodsValidate.bits3 : waitsOk customslaw08_GoodsValidate.T3.2 customslaw08_GoodsValidate.B3 = true := by kernel_rfl
def customslaw08_GoodsValidate.T11 : Bool × List (List Nat × List Nat) := (true, [([], []), ([0], [0]), ([], []), ([2, 1], [2]), ([1, 3], [1, 3]), ([4, 3], [4]), ([5, 5], [5]), ([5, 6], [5, 6]), ([7, 6, 0, 1, 2, 3, 4, 5, 6, 7], [7])])
def customslaw08_GoodsValidate.B11 : List Nat := [0, 1, 0, 7, 15, 31, 63, 127, 255]
theorem customslaw08_GoodsValidate.tab11 : rtab .any (opsOf Tryd.f3 11) = customslaw08_GoodsValidate.T11 := by kernel_rfl
theorem customslaw08_GoodsValidate.bits11 : waitsOk customslaw08_GoodsValidate.T11.2 customslaw08_GoodsValidate.B11 = true := by kernel_rfl
set_option maxHeartbeats 8000000 in
set_option maxRecDepth 100000 in
theorem customslaw08_GoodsValidate.calls (k : Nat) (A0_0 : Option Addr) (c0_0 : Nat) (l0_0 : List ByteArray) (A0_1 : Option Addr) (c0_1 : Nat) (l0_1 : List (S36)) (A0_2 : Option Addr) (c0_2 : Nat) (l0_2 : List (S38)) (a0_3 : Bool) (A1 : Option Addr) (c1 : Nat) (l1 : List Int) (a2 : Int) (r : Bool) (w : World) (hr0_0 : Kd.C Kd.string w A0_0 l0_0.length l0_0) (hc0_0 : l0_0.length ≤ c0_0) (hr0_1 : Kd.C k36 w A0_1 l0_1.length l0_1) (hc0_1 : l0_1.length ≤ c0_1) (hr0_2 : Kd.C k38 w A0_2 l0_2.length l0_2) (hc0_2 : l0_2.length ≤ c0_2) (hr1 : Kd.C (Kd.int .i64) w A1 l1.length l1) (hc1 : l1.length ≤ c1) (h : customslaw08_GoodsValidate.f k l0_0 l0_1 l0_2 a0_3 l1 a2 = some r) (hG : GL w) :
  Calls Tryd.prog 3 #[.agg #[.slice A0_0 l0_0.length c0_0, .slice A0_1 l0_1.length c0_1, .slice A0_2 l0_2.length c0_2, .bool a0_3], .slice A1 l1.length c1, .int .i64 a2] w fun e w' => e = .returned (.bool r) ∧ Below w.heap.size w w' := by
 have hu26 := Tryd.underlying26
 have HR0_0 := Aside0.mk hr0_0
 have HC0_0 := Aside0.mk hc0_0
 clear hr0_0 hc0_0
 have HR0_1 := Aside0.mk hr0_1
 have HC0_1 := Aside0.mk hc0_1
 clear hr0_1 hc0_1
 have HR0_2 := Aside0.mk hr0_2
 have HC0_2 := Aside0.mk hc0_2
 clear hr0_2 hc0_2
 have HR1 := Aside0.mk hr1
 have HC1 := Aside0.mk hc1
 clear hr1 hc1
 have HB := Aside0.mk (Below.refl w.heap.size w)
 have H : ((customslaw08_small.f l0_0 l0_1 l0_2 a0_3).bind fun bt3002 => ((customsmade_Good.f k l1).bind fun bt3012 => ((goods_Validate.f k bt3002.1 bt3002.2.1 bt3002.2.2.1 bt3002.2.2.2).bind fun t3023 => ((customsref08_Good.f k bt3002.1 bt3002.2.1 bt3002.2.2.1 bt3002.2.2.2).bind fun t3024 => (if t3023 = t3024 then ((goods_Validate.f k bt3012.1 bt3012.2.1 bt3012.2.2.1 bt3012.2.2.2).bind fun t3025 => (customslaw08_GoodsValidate.j0 k a2 (t3025 != 0) bt3002.1 bt3002.2.1 bt3002.2.2.1 bt3002.2.2.2 bt3012.1 bt3012.2.1 bt3012.2.2.1 bt3012.2.2.2)) else (customslaw08_GoodsValidate.j0 k a2 true bt3002.1 bt3002.2.1 bt3002.2.2.1 bt3002.2.2.2 bt3012.1 bt3012.2.1 bt3012.2.2.1 bt3012.2.2.2)))))) = some r := h
 clear h
 have HG := Aside0.mk hG
 clear hG
 replace H := Option.bind_eq_some_iff.mp H
 obtain ⟨⟨t3002, t3005, t3008, t3011⟩, A40, H⟩ := H
 try dsimp only at H
 have A4 := Aside0.mk A40
 clear A40
 replace H := Option.bind_eq_some_iff.mp H
 obtain ⟨⟨t3012, t3015, t3018, t3021⟩, A50, H⟩ := H
 try dsimp only at H
 have A5 := Aside0.mk A50
 clear A50
 have HC6 := Aside0.mk H
 clear H
 go_enter Tryd.func3, Tryd.ntmps3
 go_upto_region 3 with (first | ((with_reducible refine gate_dst (N := 3) rfl ?_); refine box_event ?hg (N := 3) ?hd (cs := #[.slice A0_0 l0_0.length c0_0, .slice A0_1 l0_1.length c0_1, .slice A0_2 l0_2.length c0_2, .bool a0_3]) (t := 26) ?hr ?_; (case hd => rfl); (case hg => rfl); (case hr => first | (go_simp; done) | (go_simp; rfl)); intro gb3001 hg w7 hbox hb; have n1_ := Aside0.mk (hbox); have n2_ := Aside0.mk ((by rw [hg]; exact (below_size (below_ext HB.out)) : w.heap.size ≤ gb3001)); have n3_ := Aside0.mk ((by rw [hg]; exact (below_size (below_ext HB.out)) : w.heap.size ≤ gb3001)); have BK3001 := n1_; have GW3001 := n2_; have GE3001 := n3_; have GI3001 := GE_.mk GE3001.out; replace HB := mvH HB hb; clear n1_ n2_ n3_; clear hb hbox hg; have hcz8_0 : w7.cell? ⟨gb3001, 0, none⟩ = some (.slice A0_0 l0_0.length c0_0) := (blk_cell BK3001.out 0).trans rfl; have hcz8_1 : w7.cell? ⟨gb3001, 1, none⟩ = some (.slice A0_1 l0_1.length c0_1) := (blk_cell BK3001.out 1).trans rfl; have hcz8_2 : w7.cell? ⟨gb3001, 2, none⟩ = some (.slice A0_2 l0_2.length c0_2) := (blk_cell BK3001.out 2).trans rfl; have hcz8_3 : w7.cell? ⟨gb3001, 3, none⟩ = some (.bool a0_3) := (blk_cell BK3001.out 3).trans rfl; have hfz8_0 := blk_frozen BK3001.out 0; have hfz8_1 := blk_frozen BK3001.out 1; have hfz8_2 := blk_frozen BK3001.out 2; have hfz8_3 := blk_frozen BK3001.out 3) | ((with_reducible refine gate_callee (f := 8) rfl ?_); refine goesL_ (some 9) rfl rfl Tryd.func8 (by kernel_rfl) rfl #[.agg #[.slice A0_0 l0_0.length c0_0, .slice A0_1 l0_1.length c0_1, .slice A0_2 l0_2.length c0_2, .bool a0_3]] rfl (by (try simp only [List.map_toArray, List.map_cons, List.map_nil]); first | done | rfl | (simp only [List.length_drop, List.length_take]; rfl) | (simp only [i64_w]; done) | (simp (disch := decide) only [Int.tdiv_eq_ediv_of_nonneg]; rfl)) ?_; (with_reducible refine (customslaw08_small.calls (fun k_ => k_ < w.heap.size) _ _ l0_0 (fun k_ => k_ < w.heap.size) _ _ l0_1 (fun k_ => k_ < w.heap.size) _ _ l0_2 a0_3 t3002 t3005 t3008 t3011 _ ?side1 ?side2 ?side3 A4.out).mono ?_); (case side1 => exact Kd.V_mk HC0_0.out (Kd.F_below (Kd.C_F Kd.heap_string HR0_0.out) (below_extB HB.out))); (case side2 => exact Kd.V_mk HC0_1.out (Kd.F_below (Kd.C_F k36_heap HR0_1.out) (below_extB HB.out))); (case side3 => exact Kd.V_mk HC0_2.out (Kd.F_below (Kd.C_F k38_heap HR0_2.out) (below_extB HB.out))); rintro e w9 ⟨v3003, v3006, v3009, rfl, ho0, ho1, ho2, hb⟩; refine ⟨_, rfl, ?_⟩; have n0_ := Aside0.mk (Kd.V_lower (Kd.V_mono (ok' := fun k_ => k_ ≠ gb3001) ho0 (fun k_ hk_ => Or.elim hk_ (fun hs_ => Or.elim hs_ (fun hs_ => fun e_ => Nat.not_le.2 hs_ (by rw [e_]; exact GW3001.out)) (fun hs_ => Or.elim hs_ (fun hs_ => fun e_ => Nat.not_le.2 hs_ (by rw [e_]; exact GW3001.out)) (fun hs_ => fun e_ => Nat.not_le.2 hs_ (by rw [e_]; exact GW3001.out)))) (fun hn_ => (Kd.freshB (blk_ext BK3001.out) k_ hn_)))) (below_size (below_extB HB.out))); have n1_ := Aside0.mk (Kd.V_lower (Kd.V_mono (ok' := fun k_ => k_ ≠ gb3001) ho1 (fun k_ hk_ => Or.elim hk_ (fun hs_ => Or.elim hs_ (fun hs_ => fun e_ => Nat.not_le.2 hs_ (by rw [e_]; exact GW3001.out)) (fun hs_ => Or.elim hs_ (fun hs_ => fun e_ => Nat.not_le.2 hs_ (by rw [e_]; exact GW3001.out)) (fun hs_ => fun e_ => Nat.not_le.2 hs_ (by rw [e_]; exact GW3001.out)))) (fun hn_ => (Kd.freshB (blk_ext BK3001.out) k_ hn_)))) (below_size (below_extB HB.out))); have n2_ := Aside0.mk (Kd.V_lower (Kd.V_mono (ok' := fun k_ => k_ ≠ gb3001) ho2 (fun k_ hk_ => Or.elim hk_ (fun hs_ => Or.elim hs_ (fun hs_ => fun e_ => Nat.not_le.2 hs_ (by rw [e_]; exact GW3001.out)) (fun hs_ => Or.elim hs_ (fun hs_ => fun e_ => Nat.not_le.2 hs_ (by rw [e_]; exact GW3001.out)) (fun hs_ => fun e_ => Nat.not_le.2 hs_ (by rw [e_]; exact GW3001.out)))) (fun hn_ => (Kd.freshB (blk_ext BK3001.out) k_ hn_)))) (below_size (below_extB HB.out))); have HO3004 := n0_; have HO3007 := n1_; have HO3010 := n2_; replace BK3001 := mvB BK3001 hb; replace HB := mvH HB hb; clear n0_ n1_ n2_; (try clear hb); (try clear hb2); (try clear hk); (try clear hi); (try clear ho0); (try clear ho1); (try clear ho2); obtain ⟨Ao10, co10, eo10⟩ := Kd.V_slice HO3004.out; subst eo10; have hcz11_0 : w9.cell? ⟨gb3001, 0, none⟩ = some (.slice A0_0 l0_0.length c0_0) := (blk_cell BK3001.out 0).trans rfl; have hcz11_1 : w9.cell? ⟨gb3001, 1, none⟩ = some (.slice A0_1 l0_1.length c0_1) := (blk_cell BK3001.out 1).trans rfl; have hcz11_2 : w9.cell? ⟨gb3001, 2, none⟩ = some (.slice A0_2 l0_2.length c0_2) := (blk_cell BK3001.out 2).trans rfl; have hcz11_3 : w9.cell? ⟨gb3001, 3, none⟩ = some (.bool a0_3) := (blk_cell BK3001.out 3).trans rfl; have hfz11_0 := blk_frozen BK3001.out 0; have hfz11_1 := blk_frozen BK3001.out 1; have hfz11_2 := blk_frozen BK3001.out 2; have hfz11_3 := blk_frozen BK3001.out 3; obtain ⟨Ao12, co12, eo12⟩ := Kd.V_slice HO3007.out; subst eo12; obtain ⟨Ao13, co13, eo13⟩ := Kd.V_slice HO3010.out; subst eo13) | ((with_reducible refine gate_callee (f := 9) rfl ?_); refine goesL_ (some 11) rfl rfl Tryd.func9 (by kernel_rfl) rfl #[.slice A1 l1.length c1] rfl (by (try simp only [List.map_toArray, List.map_cons, List.map_nil]); first | done | rfl | (simp only [List.length_drop, List.length_take]; rfl) | (simp only [i64_w]; done) | (simp (disch := decide) only [Int.tdiv_eq_ediv_of_nonneg]; rfl)) ?_; (with_reducible refine (customsmade_Good.calls k _ _ l1 t3012 t3015 t3018 t3021 _ ?side1 ?side2 A5.out).mono ?_); (case side1 => exact Kd.C_below HR1.out (below_extB HB.out)); (case side2 => exact HC1.out); rintro e w14 ⟨v3013, v3016, v3019, rfl, ho0, ho1, ho2, hb⟩; refine ⟨_, rfl, ?_⟩; have n0_ := Aside0.mk (Kd.V_mono (Kd.V_told (Kd.V_told (Kd.V_told (Kd.V_old (Kd.V_ext ((Kd.V_mono (Kd.V_far (p := ⟨gb3001, 3, none⟩) (Kd.V_far (p := ⟨gb3001, 2, none⟩) (Kd.V_far (p := ⟨gb3001, 1, none⟩) (Kd.V_far (p := ⟨gb3001, 0, none⟩) (Kd.V_mono HO3004.out (fun k_ hk => (⟨hk, hk⟩ : _ ∧ k_ ≠ gb3001))) (fun _ hk => hk.2) (.slice Ao10 t3002.length co10)) (fun _ hk => hk.2) (.slice Ao12 t3005.length co12)) (fun _ hk => hk.2) (.slice Ao13 t3008.length co13)) (fun _ hk => hk.2) (.bool t3011)) (fun _ h_ => h_.1)))) hb) (Kd.R_base ho0)) (Kd.R_base ho1)) (Kd.N_base ho2)) (fun _ h_ => h_.1)); have n1_ := Aside0.mk (Kd.V_mono (Kd.V_told (Kd.V_told (Kd.V_told (Kd.V_old (Kd.V_ext ((Kd.V_mono (Kd.V_far (p := ⟨gb3001, 3, none⟩) (Kd.V_far (p := ⟨gb3001, 2, none⟩) (Kd.V_far (p := ⟨gb3001, 1, none⟩) (Kd.V_far (p := ⟨gb3001, 0, none⟩) (Kd.V_mono HO3007.out (fun k_ hk => (⟨hk, hk⟩ : _ ∧ k_ ≠ gb3001))) (fun _ hk => hk.2) (.slice Ao10 t3002.length co10)) (fun _ hk => hk.2) (.slice Ao12 t3005.length co12)) (fun _ hk => hk.2) (.slice Ao13 t3008.length co13)) (fun _ hk => hk.2) (.bool t3011)) (fun _ h_ => h_.1)))) hb) (Kd.R_base ho0)) (Kd.R_base ho1)) (Kd.N_base ho2)) (fun _ h_ => h_.1)); have n2_ := Aside0.mk (Kd.V_mono (Kd.V_told (Kd.V_told (Kd.V_told (Kd.V_old (Kd.V_ext ((Kd.V_mono (Kd.V_far (p := ⟨gb3001, 3, none⟩) (Kd.V_far (p := ⟨gb3001, 2, none⟩) (Kd.V_far (p := ⟨gb3001, 1, none⟩) (Kd.V_far (p := ⟨gb3001, 0, none⟩) (Kd.V_mono HO3010.out (fun k_ hk => (⟨hk, hk⟩ : _ ∧ k_ ≠ gb3001))) (fun _ hk => hk.2) (.slice Ao10 t3002.length co10)) (fun _ hk => hk.2) (.slice Ao12 t3005.length co12)) (fun _ hk => hk.2) (.slice Ao13 t3008.length co13)) (fun _ hk => hk.2) (.bool t3011)) (fun _ h_ => h_.1)))) hb) (Kd.R_base ho0)) (Kd.R_base ho1)) (Kd.N_base ho2)) (fun _ h_ => h_.1)); have n3_ := Aside0.mk (Kd.R_lower (Kd.R_mono (ok' := fun k_ => True) ho0 (fun _ hk_ => trivial)) (below_size (below_extB HB.out))); have n4_ := Aside0.mk (Kd.R_lower (Kd.R_mono (ok' := fun k_ => True) ho1 (fun _ hk_ => trivial)) (below_size (below_extB HB.out))); have n5_ := Aside0.mk (Kd.N_lower (Kd.N_mono (ok' := fun k_ => some k_ ≠ (v3013 : Value).ownBlock ∧ some k_ ≠ (v3016 : Value).ownBlock ∧ k_ ≠ gb3001) ho2 (fun k_ hk_ => ⟨hk_.2.1, hk_.2.2, (Kd.freshB (g := gb3001) (o := .cells #[.slice Ao10 t3002.length co10, .slice Ao12 t3005.length co12, .slice Ao13 t3008.length co13, .bool t3011] 26 (0, 0)) (by (with_reducible repeat (first | refine blk_drewN ?_ _ | refine blk_drew ?_ | refine blk_alloc ?_ _)); refine blk_put (cs := #[.slice Ao10 t3002.length co10, .slice Ao12 t3005.length co12, .slice Ao13 t3008.length co13, .bool a0_3]) ?_ 3 _ rfl; (with_reducible repeat (first | refine blk_drewN ?_ _ | refine blk_drew ?_ | refine blk_alloc ?_ _)); refine blk_put (cs := #[.slice Ao10 t3002.length co10, .slice Ao12 t3005.length co12, .slice A0_2 l0_2.length c0_2, .bool a0_3]) ?_ 2 _ rfl; (with_reducible repeat (first | refine blk_drewN ?_ _ | refine blk_drew ?_ | refine blk_alloc ?_ _)); refine blk_put (cs := #[.slice Ao10 t3002.length co10, .slice A0_1 l0_1.length c0_1, .slice A0_2 l0_2.length c0_2, .bool a0_3]) ?_ 1 _ rfl; (with_reducible repeat (first | refine blk_drewN ?_ _ | refine blk_drew ?_ | refine blk_alloc ?_ _)); refine blk_put (cs := #[.slice A0_0 l0_0.length c0_0, .slice A0_1 l0_1.length c0_1, .slice A0_2 l0_2.length c0_2, .bool a0_3]) ?_ 0 _ rfl; exact blk_ext BK3001.out) k_ hk_.1)⟩)) (below_size (below_extB HB.out))); have n6_ := Aside0.mk (blk_below (g := gb3001) (o := .cells #[.slice Ao10 t3002.length co10, .slice Ao12 t3005.length co12, .slice Ao13 t3008.length co13, .bool t3011] 26 (0, 0)) (by (with_reducible repeat (first | refine blk_drewN ?_ _ | refine blk_drew ?_ | refine blk_alloc ?_ _)); refine blk_put (cs := #[.slice Ao10 t3002.length co10, .slice Ao12 t3005.length co12, .slice Ao13 t3008.length co13, .bool a0_3]) ?_ 3 _ rfl; (with_reducible repeat (first | refine blk_drewN ?_ _ | refine blk_drew ?_ | refine blk_alloc ?_ _)); refine blk_put (cs := #[.slice Ao10 t3002.length co10, .slice Ao12 t3005.length co12, .slice A0_2 l0_2.length c0_2, .bool a0_3]) ?_ 2 _ rfl; (with_reducible repeat (first | refine blk_drewN ?_ _ | refine blk_drew ?_ | refine blk_alloc ?_ _)); refine blk_put (cs := #[.slice Ao10 t3002.length co10, .slice A0_1 l0_1.length c0_1, .slice A0_2 l0_2.length c0_2, .bool a0_3]) ?_ 1 _ rfl; (with_reducible repeat (first | refine blk_drewN ?_ _ | refine blk_drew ?_ | refine blk_alloc ?_ _)); refine blk_put (cs := #[.slice A0_0 l0_0.length c0_0, .slice A0_1 l0_1.length c0_1, .slice A0_2 l0_2.length c0_2, .bool a0_3]) ?_ 0 _ rfl; exact blk_ext BK3001.out) hb); clear HO3004; clear HO3007; clear HO3010; clear BK3001; have HO3004 := n0_; have HO3007 := n1_; have HO3010 := n2_; have HO3014 := n3_; have HO3017 := n4_; have HO3020 := n5_; have BK3001 := n6_; replace HB := mvH HB hb; clear n0_ n1_ n2_ n3_ n4_ n5_ n6_; (try clear hb); (try clear hb2); (try clear hk); (try clear hi); (try clear ho0); (try clear ho1); (try clear ho2)) | ((with_reducible refine gate_dst (N := 7) rfl ?_); refine box_event ?hg (N := 7) ?hd (cs := #[.slice none 0 0, .slice none 0 0, .slice none 0 0, .bool false]) (t := 26) ?hr ?_; (case hd => rfl); (case hg => rfl); (case hr => first | (go_simp; done) | (go_simp; rfl)); intro gb3022 hg w15 hbox hb; have n8_ := Aside0.mk (hbox); have n9_ := Aside0.mk ((by rw [hg]; exact (below_size (below_extB HB.out)) : w.heap.size ≤ gb3022)); have n10_ := Aside0.mk ((by rw [hg]; exact (below_size (below_extB HB.out)) : w.heap.size ≤ gb3022)); have n11_ := Aside0.mk ((by rw [hg]; exact Nat.ne_of_lt (blk_lt (blk_ext BK3001.out)) : gb3001 ≠ gb3022)); have n12_ := Aside0.mk ((by rw [hg]; exact Nat.ne_of_gt (blk_lt (blk_ext BK3001.out)) : gb3022 ≠ gb3001)); have BK3022 := n8_; have GW3022 := n9_; have GE3022 := n10_; have GI3022 := GE_.mk GE3022.out; have NB3001_3022 := n11_; have NI3001_3022 := NE_.mk NB3001_3022.out; have NB3022_3001 := n12_; have NI3022_3001 := NE_.mk NB3022_3001.out; replace HO3004 := awV HO3004 hb gb3022 hg; replace HO3007 := awV HO3007 hb gb3022 hg; replace HO3010 := awV HO3010 hb gb3022 hg; replace HO3014 := mvR HO3014 hb; replace HO3017 := mvR HO3017 hb; replace HO3020 := awN HO3020 hb gb3022 hg; replace BK3001 := mvB BK3001 hb; replace HB := mvH HB hb; clear n8_ n9_ n10_ n11_ n12_; clear hb hbox hg; obtain ⟨Ao16, co16, eo16⟩ := Kd.R_slice HO3014.out; subst eo16; have hnb17 := NB3022_3001.out; have hnc17 := NB3001_3022.out; have hcz18_0 : w15.cell? ⟨gb3022, 0, none⟩ = some (.slice none 0 0) := (blk_cell BK3022.out 0).trans rfl; have hcz18_1 : w15.cell? ⟨gb3022, 1, none⟩ = some (.slice none 0 0) := (blk_cell BK3022.out 1).trans rfl; have hcz18_2 : w15.cell? ⟨gb3022, 2, none⟩ = some (.slice none 0 0) := (blk_cell BK3022.out 2).trans rfl; have hcz18_3 : w15.cell? ⟨gb3022, 3, none⟩ = some (.bool false) := (blk_cell BK3022.out 3).trans rfl; have hfz18_0 := blk_frozen BK3022.out 0; have hfz18_1 := blk_frozen BK3022.out 1; have hfz18_2 := blk_frozen BK3022.out 2; have hfz18_3 := blk_frozen BK3022.out 3; obtain ⟨Ao19, co19, eo19⟩ := Kd.R_slice HO3017.out; subst eo19; obtain ⟨Ao20, co20, eo20⟩ := Kd.N_slice HO3020.out; subst eo20))
 (try simp only [Act.put, List.setIfInBounds_toArray, List.set_cons_zero, List.set_cons_succ])
 go_cut [21] (fun v21 wc => ∃ (kq : Nat) (x21_5 : Bool), v21 = .bool x21_5 ∧ Aside0 (customslaw08_GoodsValidate.j0 kq a2 x21_5 t3002 t3005 t3008 t3011 t3012 t3015 t3018 t3021 = some r) ∧ Aside0 (kq ≤ k) ∧ Aside0 (Kd.V Kd.string 9 wc w.heap.size (fun k_ => some k_ ≠ ((.slice Ao16 t3012.length co16) : Value).ownBlock ∧ some k_ ≠ ((.slice Ao19 t3015.length co19) : Value).ownBlock ∧ some k_ ≠ ((.slice Ao20 t3018.length co20) : Value).ownBlock ∧ k_ ≠ gb3001 ∧ k_ ≠ gb3022) (.slice Ao10 t3002.length co10) t3002) ∧ Aside0 (Kd.V k36 36 wc w.heap.size (fun k_ => some k_ ≠ ((.slice Ao16 t3012.length co16) : Value).ownBlock ∧ some k_ ≠ ((.slice Ao19 t3015.length co19) : Value).ownBlock ∧ some k_ ≠ ((.slice Ao20 t3018.length co20) : Value).ownBlock ∧ k_ ≠ gb3001 ∧ k_ ≠ gb3022) (.slice Ao12 t3005.length co12) t3005) ∧ Aside0 (Kd.V k38 38 wc w.heap.size (fun k_ => some k_ ≠ ((.slice Ao16 t3012.length co16) : Value).ownBlock ∧ some k_ ≠ ((.slice Ao19 t3015.length co19) : Value).ownBlock ∧ some k_ ≠ ((.slice Ao20 t3018.length co20) : Value).ownBlock ∧ k_ ≠ gb3001 ∧ k_ ≠ gb3022) (.slice Ao13 t3008.length co13) t3008) ∧ Aside0 (Kd.R Kd.string 9 wc w.heap.size (fun _ => True) (.slice Ao16 t3012.length co16) t3012) ∧ Aside0 (Kd.R k36 36 wc w.heap.size (fun _ => True) (.slice Ao19 t3015.length co19) t3015) ∧ Aside0 (Kd.N k38 38 wc w.heap.size (fun k_ => some k_ ≠ ((.slice Ao16 t3012.length co16) : Value).ownBlock ∧ some k_ ≠ ((.slice Ao19 t3015.length co19) : Value).ownBlock ∧ k_ ≠ gb3001 ∧ k_ ≠ gb3022) (.slice Ao20 t3018.length co20) t3018) ∧ Aside0 (wc.heap[gb3001]? = some (.cells #[(.slice Ao10 t3002.length co10), (.slice Ao12 t3005.length co12), (.slice Ao13 t3008.length co13), .bool t3011] 26 (0, 0))) ∧ Aside0 (wc.heap[gb3022]? = some (.cells #[(.slice Ao16 t3012.length co16), (.slice Ao19 t3015.length co19), (.slice Ao20 t3018.length co20), .bool t3021] 26 (0, 0))) ∧ Aside0 (Below w.heap.size w wc))
 case first =>
  have H := HC6.out
  clear HC6
  replace H := Option.bind_eq_some_iff.mp H
  obtain ⟨t3023, A210, H⟩ := H
  try dsimp only at H
  have A21 := Aside0.mk A210
  clear A210
  replace H := Option.bind_eq_some_iff.mp H
  obtain ⟨t3024, A220, H⟩ := H
  try dsimp only at H
  have A22 := Aside0.mk A220
  clear A220
  by_cases c23 : t3023 = t3024
  ·
   rw [if_pos c23] at H
   have c23b0 : (t3023 == t3024) = true := beq_iff_eq.mpr c23
   have c23b1 : (t3023 != t3024) = false := bne_eq_false_iff_eq.mpr c23
   clear c23
   (first | rw [c23b0] | (simp only [i64_w, i32_w]; rw [c23b0]) | rw [c23b1] | skip)
   replace H := Option.bind_eq_some_iff.mp H
   obtain ⟨t3025, A240, H⟩ := H
   try dsimp only at H
   have A24 := Aside0.mk A240
   clear A240
   have H' := Aside0.mk H
   clear H
   try go_wp2
   (try simp only [setCell_drewN])
   have n0_ : Aside0 (Kd.V Kd.string 9 ((((w15.setCell ⟨gb3022, 0, none⟩ (.slice Ao16 t3012.length co16)).setCell ⟨gb3022, 1, none⟩ (.slice Ao19 t3015.length co19)).setCell ⟨gb3022, 2, none⟩ (.slice Ao20 t3018.length co20)).setCell ⟨gb3022, 3, none⟩ (.bool t3021)) w.heap.size (fun k_ => some k_ ≠ (.slice Ao16 t3012.length co16 : Value).ownBlock ∧ some k_ ≠ (.slice Ao19 t3015.length co19 : Value).ownBlock ∧ some k_ ≠ (.slice Ao20 t3018.length co20 : Value).ownBlock ∧ k_ ≠ gb3001 ∧ k_ ≠ gb3022) (.slice Ao10 t3002.length co10) t3002) := ⟨Kd.V_ext (Kd.V_mono (Kd.V_far (p := ⟨gb3022, 3, none⟩) (Kd.V_far (p := ⟨gb3022, 2, none⟩) (Kd.V_far (p := ⟨gb3022, 1, none⟩) (Kd.V_far (p := ⟨gb3022, 0, none⟩) (Kd.V_mono HO3004.out (fun k_ hk => (⟨hk, hk.2⟩ : _ ∧ k_ ≠ gb3022))) (fun _ hk => hk.2) (.slice Ao16 t3012.length co16)) (fun _ hk => hk.2) (.slice Ao19 t3015.length co19)) (fun _ hk => hk.2) (.slice Ao20 t3018.length co20)) (fun _ hk => hk.2) (.bool t3021)) (fun _ hk => ⟨hk.1.1.1.1.2, ⟨hk.1.1.1.2, ⟨hk.1.1.2, ⟨hk.1.1.1.1.1, hk.1.2⟩⟩⟩⟩))⟩
   have n1_ : Aside0 (Kd.V k36 36 ((((w15.setCell ⟨gb3022, 0, none⟩ (.slice Ao16 t3012.length co16)).setCell ⟨gb3022, 1, none⟩ (.slice Ao19 t3015.length co19)).setCell ⟨gb3022, 2, none⟩ (.slice Ao20 t3018.length co20)).setCell ⟨gb3022, 3, none⟩ (.bool t3021)) w.heap.size (fun k_ => some k_ ≠ (.slice Ao16 t3012.length co16 : Value).ownBlock ∧ some k_ ≠ (.slice Ao19 t3015.length co19 : Value).ownBlock ∧ some k_ ≠ (.slice Ao20 t3018.length co20 : Value).ownBlock ∧ k_ ≠ gb3001 ∧ k_ ≠ gb3022) (.slice Ao12 t3005.length co12) t3005) := ⟨Kd.V_ext (Kd.V_mono (Kd.V_far (p := ⟨gb3022, 3, none⟩) (Kd.V_far (p := ⟨gb3022, 2, none⟩) (Kd.V_far (p := ⟨gb3022, 1, none⟩) (Kd.V_far (p := ⟨gb3022, 0, none⟩) (Kd.V_mono HO3007.out (fun k_ hk => (⟨hk, hk.2⟩ : _ ∧ k_ ≠ gb3022))) (fun _ hk => hk.2) (.slice Ao16 t3012.length co16)) (fun _ hk => hk.2) (.slice Ao19 t3015.length co19)) (fun _ hk => hk.2) (.slice Ao20 t3018.length co20)) (fun _ hk => hk.2) (.bool t3021)) (fun _ hk => ⟨hk.1.1.1.1.2, ⟨hk.1.1.1.2, ⟨hk.1.1.2, ⟨hk.1.1.1.1.1, hk.1.2⟩⟩⟩⟩))⟩
   have n2_ : Aside0 (Kd.V k38 38 ((((w15.setCell ⟨gb3022, 0, none⟩ (.slice Ao16 t3012.length co16)).setCell ⟨gb3022, 1, none⟩ (.slice Ao19 t3015.length co19)).setCell ⟨gb3022, 2, none⟩ (.slice Ao20 t3018.length co20)).setCell ⟨gb3022, 3, none⟩ (.bool t3021)) w.heap.size (fun k_ => some k_ ≠ (.slice Ao16 t3012.length co16 : Value).ownBlock ∧ some k_ ≠ (.slice Ao19 t3015.length co19 : Value).ownBlock ∧ some k_ ≠ (.slice Ao20 t3018.length co20 : Value).ownBlock ∧ k_ ≠ gb3001 ∧ k_ ≠ gb3022) (.slice Ao13 t3008.length co13) t3008) := ⟨Kd.V_ext (Kd.V_mono (Kd.V_far (p := ⟨gb3022, 3, none⟩) (Kd.V_far (p := ⟨gb3022, 2, none⟩) (Kd.V_far (p := ⟨gb3022, 1, none⟩) (Kd.V_far (p := ⟨gb3022, 0, none⟩) (Kd.V_mono HO3010.out (fun k_ hk => (⟨hk, hk.2⟩ : _ ∧ k_ ≠ gb3022))) (fun _ hk => hk.2) (.slice Ao16 t3012.length co16)) (fun _ hk => hk.2) (.slice Ao19 t3015.length co19)) (fun _ hk => hk.2) (.slice Ao20 t3018.length co20)) (fun _ hk => hk.2) (.bool t3021)) (fun _ hk => ⟨hk.1.1.1.1.2, ⟨hk.1.1.1.2, ⟨hk.1.1.2, ⟨hk.1.1.1.1.1, hk.1.2⟩⟩⟩⟩))⟩
   have n3_ : Aside0 (Kd.R Kd.string 9 ((((w15.setCell ⟨gb3022, 0, none⟩ (.slice Ao16 t3012.length co16)).setCell ⟨gb3022, 1, none⟩ (.slice Ao19 t3015.length co19)).setCell ⟨gb3022, 2, none⟩ (.slice Ao20 t3018.length co20)).setCell ⟨gb3022, 3, none⟩ (.bool t3021)) w.heap.size (fun _ => True) (.slice Ao16 t3012.length co16) t3012) := ⟨Kd.R_ext (Kd.R_mono (Kd.R_far (p := ⟨gb3022, 3, none⟩) (Kd.R_far (p := ⟨gb3022, 2, none⟩) (Kd.R_far (p := ⟨gb3022, 1, none⟩) (Kd.R_far (p := ⟨gb3022, 0, none⟩) (Kd.R_types HO3014.out BK3022.out (by decide)) (fun _ hk => hk.2) (.slice Ao16 t3012.length co16)) (fun _ hk => hk.2) (.slice Ao19 t3015.length co19)) (fun _ hk => hk.2) (.slice Ao20 t3018.length co20)) (fun _ hk => hk.2) (.bool t3021)) (fun _ hk => trivial))⟩
   have n4_ : Aside0 (Kd.R k36 36 ((((w15.setCell ⟨gb3022, 0, none⟩ (.slice Ao16 t3012.length co16)).setCell ⟨gb3022, 1, none⟩ (.slice Ao19 t3015.length co19)).setCell ⟨gb3022, 2, none⟩ (.slice Ao20 t3018.length co20)).setCell ⟨gb3022, 3, none⟩ (.bool t3021)) w.heap.size (fun _ => True) (.slice Ao19 t3015.length co19) t3015) := ⟨Kd.R_ext (Kd.R_mono (Kd.R_far (p := ⟨gb3022, 3, none⟩) (Kd.R_far (p := ⟨gb3022, 2, none⟩) (Kd.R_far (p := ⟨gb3022, 1, none⟩) (Kd.R_far (p := ⟨gb3022, 0, none⟩) (Kd.R_types HO3017.out BK3022.out (by decide)) (fun _ hk => hk.2) (.slice Ao16 t3012.length co16)) (fun _ hk => hk.2) (.slice Ao19 t3015.length co19)) (fun _ hk => hk.2) (.slice Ao20 t3018.length co20)) (fun _ hk => hk.2) (.bool t3021)) (fun _ hk => trivial))⟩
   have n5_ : Aside0 (Kd.N k38 38 ((((w15.setCell ⟨gb3022, 0, none⟩ (.slice Ao16 t3012.length co16)).setCell ⟨gb3022, 1, none⟩ (.slice Ao19 t3015.length co19)).setCell ⟨gb3022, 2, none⟩ (.slice Ao20 t3018.length co20)).setCell ⟨gb3022, 3, none⟩ (.bool t3021)) w.heap.size (fun k_ => some k_ ≠ (.slice Ao16 t3012.length co16 : Value).ownBlock ∧ some k_ ≠ (.slice Ao19 t3015.length co19 : Value).ownBlock ∧ k_ ≠ gb3001 ∧ k_ ≠ gb3022) (.slice Ao20 t3018.length co20) t3018) := ⟨Kd.N_ext (Kd.N_mono (Kd.N_far (p := ⟨gb3022, 3, none⟩) (Kd.N_far (p := ⟨gb3022, 2, none⟩) (Kd.N_far (p := ⟨gb3022, 1, none⟩) (Kd.N_far (p := ⟨gb3022, 0, none⟩) (Kd.N_mono HO3020.out (fun k_ hk => (⟨hk, hk.2⟩ : _ ∧ k_ ≠ gb3022))) (fun _ hk => hk.2) (.slice Ao16 t3012.length co16)) (fun _ hk => hk.2) (.slice Ao19 t3015.length co19)) (fun _ hk => hk.2) (.slice Ao20 t3018.length co20)) (fun _ hk => hk.2) (.bool t3021)) (fun _ hk => ⟨hk.1.1.1, ⟨hk.1.1.2.1, ⟨hk.1.1.2.2, hk.1.2⟩⟩⟩))⟩
   have n6_ : Aside0 (((((w15.setCell ⟨gb3022, 0, none⟩ (.slice Ao16 t3012.length co16)).setCell ⟨gb3022, 1, none⟩ (.slice Ao19 t3015.length co19)).setCell ⟨gb3022, 2, none⟩ (.slice Ao20 t3018.length co20)).setCell ⟨gb3022, 3, none⟩ (.bool t3021)).heap[gb3001]? = some (.cells #[.slice Ao10 t3002.length co10, .slice Ao12 t3005.length co12, .slice Ao13 t3008.length co13, .bool t3011] 26 (0, 0))) := ⟨blk_extC BK3001.out⟩
   have n7_ : Aside0 (((((w15.setCell ⟨gb3022, 0, none⟩ (.slice Ao16 t3012.length co16)).setCell ⟨gb3022, 1, none⟩ (.slice Ao19 t3015.length co19)).setCell ⟨gb3022, 2, none⟩ (.slice Ao20 t3018.length co20)).setCell ⟨gb3022, 3, none⟩ (.bool t3021)).heap[gb3022]? = some (.cells #[.slice Ao16 t3012.length co16, .slice Ao19 t3015.length co19, .slice Ao20 t3018.length co20, .bool t3021] 26 (0, 0))) := ⟨by (with_reducible repeat (first | refine blk_drewN ?_ _ | refine blk_drew ?_ | refine blk_alloc ?_ _)); refine blk_put (cs := #[.slice Ao16 t3012.length co16, .slice Ao19 t3015.length co19, .slice Ao20 t3018.length co20, .bool false]) ?_ 3 _ rfl; (with_reducible repeat (first | refine blk_drewN ?_ _ | refine blk_drew ?_ | refine blk_alloc ?_ _)); refine blk_put (cs := #[.slice Ao16 t3012.length co16, .slice Ao19 t3015.length co19, .slice none 0 0, .bool false]) ?_ 2 _ rfl; (with_reducible repeat (first | refine blk_drewN ?_ _ | refine blk_drew ?_ | refine blk_alloc ?_ _)); refine blk_put (cs := #[.slice Ao16 t3012.length co16, .slice none 0 0, .slice none 0 0, .bool false]) ?_ 1 _ rfl; (with_reducible repeat (first | refine blk_drewN ?_ _ | refine blk_drew ?_ | refine blk_alloc ?_ _)); refine blk_put (cs := #[.slice none 0 0, .slice none 0 0, .slice none 0 0, .bool false]) ?_ 0 _ rfl; exact blk_ext BK3022.out⟩
   have n8_ : Aside0 (Below w.heap.size w ((((w15.setCell ⟨gb3022, 0, none⟩ (.slice Ao16 t3012.length co16)).setCell ⟨gb3022, 1, none⟩ (.slice Ao19 t3015.length co19)).setCell ⟨gb3022, 2, none⟩ (.slice Ao20 t3018.length co20)).setCell ⟨gb3022, 3, none⟩ (.bool t3021))) := ⟨below_extB HB.out⟩
   (try clear HO3004)
   (try clear HO3007)
   (try clear HO3010)
   (try clear HO3014)
   (try clear HO3017)
   (try clear HO3020)
   (try clear BK3001)
   (try clear BK3022)
   (try clear HB)
   generalize ((((w15.setCell ⟨gb3022, 0, none⟩ (.slice Ao16 t3012.length co16)).setCell ⟨gb3022, 1, none⟩ (.slice Ao19 t3015.length co19)).setCell ⟨gb3022, 2, none⟩ (.slice Ao20 t3018.length co20)).setCell ⟨gb3022, 3, none⟩ (.bool t3021)) = w25 at n0_ n1_ n2_ n3_ n4_ n5_ n6_ n7_ n8_ ⊢
   have HO3004 := n0_
   have HO3007 := n1_
   have HO3010 := n2_
   have HO3014 := n3_
   have HO3017 := n4_
   have HO3020 := n5_
   have BK3001 := n6_
   have BK3022 := n7_
   have HB := n8_
   clear n0_ n1_ n2_ n3_ n4_ n5_ n6_ n7_ n8_
   (try (rw [drewN_self w25]; generalize hq_ : World.drewN w25 _ = w25; have n0_ := Aside0.mk (Kd.V_at hq_ HO3004.out); have n1_ := Aside0.mk (Kd.V_at hq_ HO3007.out); have n2_ := Aside0.mk (Kd.V_at hq_ HO3010.out); have n3_ := Aside0.mk (Kd.R_at hq_ HO3014.out); have n4_ := Aside0.mk (Kd.R_at hq_ HO3017.out); have n5_ := Aside0.mk (Kd.N_at hq_ HO3020.out); have n6_ := Aside0.mk (blk_at hq_ BK3001.out); have n7_ := Aside0.mk (blk_at hq_ BK3022.out); have n8_ := Aside0.mk (below_at hq_ HB.out); clear hq_ HO3004 HO3007 HO3010 HO3014 HO3017 HO3020 BK3001 BK3022 HB; have HO3004 := n0_; have HO3007 := n1_; have HO3010 := n2_; have HO3014 := n3_; have HO3017 := n4_; have HO3020 := n5_; have BK3001 := n6_; have BK3022 := n7_; have HB := n8_; clear n0_ n1_ n2_ n3_ n4_ n5_ n6_ n7_ n8_))
   have n0_ := Aside0.mk (Kd.V_drew HO3004.out)
   have n1_ := Aside0.mk (Kd.V_drew HO3007.out)
   have n2_ := Aside0.mk (Kd.V_drew HO3010.out)
   have n3_ := Aside0.mk (Kd.R_drew HO3014.out)
   have n4_ := Aside0.mk (Kd.R_drew HO3017.out)
   have n5_ := Aside0.mk (Kd.N_drew HO3020.out)
   have n6_ := Aside0.mk (blk_drew BK3001.out)
   have n7_ := Aside0.mk (blk_drew BK3022.out)
   have n8_ := Aside0.mk (below_drew1 HB.out)
   clear HO3004
   clear HO3007
   clear HO3010
   clear HO3014
   clear HO3017
   clear HO3020
   clear BK3001
   clear BK3022
   clear HB
   have HO3004 := n0_
   have HO3007 := n1_
   have HO3010 := n2_
   have HO3014 := n3_
   have HO3017 := n4_
   have HO3020 := n5_
   have BK3001 := n6_
   have BK3022 := n7_
   have HB := n8_
   clear n0_ n1_ n2_ n3_ n4_ n5_ n6_ n7_ n8_
   refine start_ (n := 10) (S := fun w' => w'.cell? ⟨gb3001, 0, none⟩ = some (.slice Ao10 t3002.length co10) ∧ w'.cell? ⟨gb3001, 1, none⟩ = some (.slice Ao12 t3005.length co12) ∧ w'.cell? ⟨gb3001, 2, none⟩ = some (.slice Ao13 t3008.length co13) ∧ w'.cell? ⟨gb3001, 3, none⟩ = some (.bool t3011) ∧ w'.cell? ⟨gb3022, 0, none⟩ = some (.slice Ao16 t3012.length co16) ∧ w'.cell? ⟨gb3022, 1, none⟩ = some (.slice Ao19 t3015.length co19) ∧ w'.cell? ⟨gb3022, 2, none⟩ = some (.slice Ao20 t3018.length co20) ∧ w'.cell? ⟨gb3022, 3, none⟩ = some (.bool t3021)) (ds := []) #[false, false, false, false, false, false, false, false, false, false] (by kernel_rfl) rfl rfl ⟨(blk_cell BK3001.out 0).trans rfl, (blk_cell BK3001.out 1).trans rfl, (blk_cell BK3001.out 2).trans rfl, (blk_cell BK3001.out 3).trans rfl, (blk_cell BK3022.out 0).trans rfl, (blk_cell BK3022.out 1).trans rfl, (blk_cell BK3022.out 2).trans rfl, (blk_cell BK3022.out 3).trans rfl⟩ (fun hHeld => ?_); refine with_tabW customslaw08_GoodsValidate.tab3 customslaw08_GoodsValidate.bits3 (fun HT_ HW_ => ?_)
   generalize w25.drew = w26 at HO3004 HO3007 HO3010 HO3014 HO3017 HO3020 BK3001 BK3022 HB hHeld ⊢
   refine take_ (i := 0) (N := some 12) (v := ?_) (a' := ?_) #[true, false, false, false, false, false, false, false, false, false] rfl rfl (take_ofW HT_.out HW_.out (by kernel_rfl)) (fun _ _ _ h => h) (Or.inl ⟨by rfl, ?_⟩) hHeld ?_ ?_
   rotate_left
   ·
    rintro w' ⟨s0, s1, s2, s3, s4, s5, s6, s7⟩
    go_simp
    with_reducible rfl
   rotate_left
   ·
    simp only [Act.put, List.setIfInBounds_toArray, List.set_cons_zero, List.set_cons_succ, i64_w, i32_w]
    rfl
   refine take_ (i := 2) (N := some 14) (v := ?_) (a' := ?_) #[true, false, true, false, false, false, false, false, false, false] rfl rfl (take_ofW HT_.out HW_.out (by kernel_rfl)) (fun _ _ _ h => h) (Or.inl ⟨by rfl, ?_⟩) hHeld ?_ ?_
   rotate_left
   ·
    rintro w' ⟨s0, s1, s2, s3, s4, s5, s6, s7⟩
    go_simp
    with_reducible rfl
   rotate_left
   ·
    simp only [Act.put, List.setIfInBounds_toArray, List.set_cons_zero, List.set_cons_succ, i64_w, i32_w]
    rfl
   refine one_ (i := 1) (N := some 13) #[true, true, true, false, false, false, false, false, false, false] rfl rfl (one_of HT_.out (by kernel_rfl)) (by decide) (fun K hK => ?_)
   refine goes_ Tryd.func10 (by kernel_rfl) rfl #[.agg #[.slice Ao10 t3002.length co10, .slice Ao12 t3005.length co12, .slice Ao13 t3008.length co13, .bool t3011]] (by rfl) rfl rfl (by (try simp only [List.map_toArray, List.map_cons, List.map_nil]); first | done | rfl | (simp only [List.length_drop, List.length_take]; rfl)) ?_
   with_reducible refine (goods_Validate.calls k _ _ t3002 _ _ t3005 _ _ t3008 t3011 t3023 _ ?side1 ?side2 ?side3 ?side4 ?side5 ?side6 A21.out).mono ?_
   (case side1 => exact Kd.C_ext (Kd.V_reads' HO3004.out).2.2)
   (case side2 => exact (Kd.V_reads' HO3004.out).2.1)
   (case side3 => exact Kd.C_ext (Kd.V_reads' HO3007.out).2.2)
   (case side4 => exact (Kd.V_reads' HO3007.out).2.1)
   (case side5 => exact Kd.C_ext (Kd.V_reads' HO3010.out).2.2)
   (case side6 => exact (Kd.V_reads' HO3010.out).2.1)
   rintro e w27 ⟨rfl, hb⟩
   refine ⟨_, rfl, ?_⟩
   replace HO3004 := mvV HO3004 hb
   replace HO3007 := mvV HO3007 hb
   replace HO3010 := mvV HO3010 hb
   replace HO3014 := mvR HO3014 hb
   replace HO3017 := mvR HO3017 hb
   replace HO3020 := mvN HO3020 hb
   replace BK3001 := mvB BK3001 hb
   replace BK3022 := mvB BK3022 hb
   replace HB := mvH HB hb
   (try clear hb)
   (try clear hb2)
   (try clear hk)
   (try clear hi)
   refine hK.out _ _ ⟨(blk_cell BK3001.out 0).trans rfl, (blk_cell BK3001.out 1).trans rfl, (blk_cell BK3001.out 2).trans rfl, (blk_cell BK3001.out 3).trans rfl, (blk_cell BK3022.out 0).trans rfl, (blk_cell BK3022.out 1).trans rfl, (blk_cell BK3022.out 2).trans rfl, (blk_cell BK3022.out 3).trans rfl⟩ (fun hHeld => ?_)
   clear hK K
   refine norm_ (a' := ?_) ?_ ?_
   rotate_left
   ·
    show Act.put _ (some 13) _ = _
    simp only [Act.put, List.setIfInBounds_toArray, List.set_cons_zero, List.set_cons_succ, i64_w, i32_w]
    rfl
   refine one_ (i := 3) (N := some 15) #[true, true, true, true, false, false, false, false, false, false] rfl rfl (one_of HT_.out (by kernel_rfl)) (by decide) (fun K hK => ?_)
   refine goes_ Tryd.func11 (by kernel_rfl) rfl #[.agg #[.slice Ao10 t3002.length co10, .slice Ao12 t3005.length co12, .slice Ao13 t3008.length co13, .bool t3011]] (by rfl) rfl rfl (by (try simp only [List.map_toArray, List.map_cons, List.map_nil]); first | done | rfl | (simp only [List.length_drop, List.length_take]; rfl)) ?_
   with_reducible refine (customsref08_Good.calls k _ _ t3002 _ _ t3005 _ _ t3008 t3011 t3024 _ ?side1 ?side2 ?side3 ?side4 ?side5 ?side6 A22.out).mono ?_
   (case side1 => exact Kd.C_ext (Kd.V_reads' HO3004.out).2.2)
   (case side2 => exact (Kd.V_reads' HO3004.out).2.1)
   (case side3 => exact Kd.C_ext (Kd.V_reads' HO3007.out).2.2)
   (case side4 => exact (Kd.V_reads' HO3007.out).2.1)
   (case side5 => exact Kd.C_ext (Kd.V_reads' HO3010.out).2.2)
   (case side6 => exact (Kd.V_reads' HO3010.out).2.1)
   rintro e w28 ⟨rfl, hb⟩
   refine ⟨_, rfl, ?_⟩
   replace HO3004 := mvV HO3004 hb
   replace HO3007 := mvV HO3007 hb
   replace HO3010 := mvV HO3010 hb
   replace HO3014 := mvR HO3014 hb
   replace HO3017 := mvR HO3017 hb
   replace HO3020 := mvN HO3020 hb
   replace BK3001 := mvB BK3001 hb
   replace BK3022 := mvB BK3022 hb
   replace HB := mvH HB hb
   (try clear hb)
   (try clear hb2)
   (try clear hk)
   (try clear hi)
   refine hK.out _ _ ⟨(blk_cell BK3001.out 0).trans rfl, (blk_cell BK3001.out 1).trans rfl, (blk_cell BK3001.out 2).trans rfl, (blk_cell BK3001.out 3).trans rfl, (blk_cell BK3022.out 0).trans rfl, (blk_cell BK3022.out 1).trans rfl, (blk_cell BK3022.out 2).trans rfl, (blk_cell BK3022.out 3).trans rfl⟩ (fun hHeld => ?_)
   clear hK K
   refine norm_ (a' := ?_) ?_ ?_
   rotate_left
   ·
    show Act.put _ (some 15) _ = _
    simp only [Act.put, List.setIfInBounds_toArray, List.set_cons_zero, List.set_cons_succ, i64_w, i32_w]
    rfl
   refine pure_ (i := 4) (N := some 16) (v := ?_) (a' := ?_) #[true, true, true, true, true, false, false, false, false, false] rfl rfl (any_of HT_.out (by kernel_rfl)) (fun _ _ _ h => h) (Or.inl ⟨by rfl, ?_⟩) ?_ ?_
   rotate_left
   ·
    intro w'
    go_simp
    with_reducible rfl
   rotate_left
   ·
    simp only [Act.put, List.setIfInBounds_toArray, List.set_cons_zero, List.set_cons_succ, i64_w, i32_w]
    rfl
   refine pure_ (i := 5) (N := some 17) (v := ?_) (a' := ?_) #[true, true, true, true, true, true, false, false, false, false] rfl rfl (any_of HT_.out (by kernel_rfl)) (fun _ _ _ h => h) (Or.inl ⟨by rfl, ?_⟩) ?_ ?_
   rotate_left
   ·
    intro w'
    go_simp
    with_reducible rfl
   rotate_left
   ·
    simp only [Act.put, List.setIfInBounds_toArray, List.set_cons_zero, List.set_cons_succ, i64_w, i32_w]
    rfl
   refine take_ (i := 6) (N := some 18) (v := ?_) (a' := ?_) #[true, true, true, true, true, true, true, false, false, false] rfl rfl (take_ofW HT_.out HW_.out (by kernel_rfl)) (fun _ _ _ h => h) (Or.inl ⟨by rfl, ?_⟩) hHeld ?_ ?_
   rotate_left
   ·
    rintro w' ⟨s0, s1, s2, s3, s4, s5, s6, s7⟩
    go_simp
    with_reducible rfl
   rotate_left
   ·
    simp only [Act.put, List.setIfInBounds_toArray, List.set_cons_zero, List.set_cons_succ, i64_w, i32_w]
    rfl
   refine one_ (i := 7) (N := some 19) #[true, true, true, true, true, true, true, true, false, false] rfl rfl (one_of HT_.out (by kernel_rfl)) (by decide) (fun K hK => ?_)
   refine goes_ Tryd.func10 (by kernel_rfl) rfl #[.agg #[.slice Ao16 t3012.length co16, .slice Ao19 t3015.length co19, .slice Ao20 t3018.length co20, .bool t3021]] (by rfl) rfl rfl (by (try simp only [List.map_toArray, List.map_cons, List.map_nil]); first | done | rfl | (simp only [List.length_drop, List.length_take]; rfl)) ?_
   with_reducible refine (goods_Validate.calls k _ _ t3012 _ _ t3015 _ _ t3018 t3021 t3025 _ ?side1 ?side2 ?side3 ?side4 ?side5 ?side6 A24.out).mono ?_
   (case side1 => exact Kd.C_ext (Kd.R_reads' HO3014.out).2.2)
   (case side2 => exact (Kd.R_reads' HO3014.out).2.1)
   (case side3 => exact Kd.C_ext (Kd.R_reads' HO3017.out).2.2)
   (case side4 => exact (Kd.R_reads' HO3017.out).2.1)
   (case side5 => exact Kd.C_ext (Kd.N_reads' HO3020.out).2.2)
   (case side6 => exact (Kd.N_reads' HO3020.out).2.1)
   rintro e w29 ⟨rfl, hb⟩
   refine ⟨_, rfl, ?_⟩
   replace HO3004 := mvV HO3004 hb
   replace HO3007 := mvV HO3007 hb
   replace HO3010 := mvV HO3010 hb
   replace HO3014 := mvR HO3014 hb
   replace HO3017 := mvR HO3017 hb
   replace HO3020 := mvN HO3020 hb
   replace BK3001 := mvB BK3001 hb
   replace BK3022 := mvB BK3022 hb
   replace HB := mvH HB hb
   (try clear hb)
   (try clear hb2)
   (try clear hk)
   (try clear hi)
   refine hK.out _ _ ⟨(blk_cell BK3001.out 0).trans rfl, (blk_cell BK3001.out 1).trans rfl, (blk_cell BK3001.out 2).trans rfl, (blk_cell BK3001.out 3).trans rfl, (blk_cell BK3022.out 0).trans rfl, (blk_cell BK3022.out 1).trans rfl, (blk_cell BK3022.out 2).trans rfl, (blk_cell BK3022.out 3).trans rfl⟩ (fun hHeld => ?_)
   clear hK K
   refine norm_ (a' := ?_) ?_ ?_
   rotate_left
   ·
    show Act.put _ (some 19) _ = _
    simp only [Act.put, List.setIfInBounds_toArray, List.set_cons_zero, List.set_cons_succ, i64_w, i32_w]
    rfl
   refine pure_ (i := 8) (N := some 20) (v := ?_) (a' := ?_) #[true, true, true, true, true, true, true, true, true, false] rfl rfl (any_of HT_.out (by kernel_rfl)) (fun _ _ _ h => h) (Or.inl ⟨by rfl, ?_⟩) ?_ ?_
   rotate_left
   ·
    intro w'
    go_simp
    with_reducible rfl
   rotate_left
   ·
    simp only [Act.put, List.setIfInBounds_toArray, List.set_cons_zero, List.set_cons_succ, i64_w, i32_w]
    rfl
   refine pure_ (i := 9) (N := some 21) (v := ?_) (a' := ?_) #[true, true, true, true, true, true, true, true, true, true] rfl rfl (any_of HT_.out (by kernel_rfl)) (fun _ _ _ h => h) (Or.inl ⟨by rfl, ?_⟩) ?_ ?_
   rotate_left
   ·
    intro w'
    go_simp
    with_reducible rfl
   rotate_left
   ·
    simp only [Act.put, List.setIfInBounds_toArray, List.set_cons_zero, List.set_cons_succ, i64_w, i32_w]
    rfl
   refine done_ (done_of HT_.out (by kernel_rfl)) ?_
   try go_wp2
   go_meet
   case rel => exact ⟨_, ((t3025 != 0)), (by first | rfl | (simp; done) | (simp [*]; done)), H', ⟨by first | omega | exact Nat.le_refl _⟩, ⟨Kd.V_ext HO3004.out⟩, ⟨Kd.V_ext HO3007.out⟩, ⟨Kd.V_ext HO3010.out⟩, ⟨Kd.R_ext HO3014.out⟩, ⟨Kd.R_ext HO3017.out⟩, ⟨Kd.N_ext HO3020.out⟩, ⟨blk_ext BK3001.out⟩, ⟨blk_ext BK3022.out⟩, ⟨below_extB HB.out⟩⟩
  ·
   rw [if_neg c23] at H
   have c23b0 : (t3023 == t3024) = false := beq_eq_false_iff_ne.mpr c23
   have c23b1 : (t3023 != t3024) = true := bne_iff_ne.mpr c23
   (first | rw [c23b0] | (simp only [i64_w, i32_w]; rw [c23b0]) | rw [c23b1] | skip)
   have H' := Aside0.mk H
   clear H
   try go_wp2
   (try simp only [setCell_drewN])
   have n0_ : Aside0 (Kd.V Kd.string 9 ((((w15.setCell ⟨gb3022, 0, none⟩ (.slice Ao16 t3012.length co16)).setCell ⟨gb3022, 1, none⟩ (.slice Ao19 t3015.length co19)).setCell ⟨gb3022, 2, none⟩ (.slice Ao20 t3018.length co20)).setCell ⟨gb3022, 3, none⟩ (.bool t3021)) w.heap.size (fun k_ => some k_ ≠ (.slice Ao16 t3012.length co16 : Value).ownBlock ∧ some k_ ≠ (.slice Ao19 t3015.length co19 : Value).ownBlock ∧ some k_ ≠ (.slice Ao20 t3018.length co20 : Value).ownBlock ∧ k_ ≠ gb3001 ∧ k_ ≠ gb3022) (.slice Ao10 t3002.length co10) t3002) := ⟨Kd.V_ext (Kd.V_mono (Kd.V_far (p := ⟨gb3022, 3, none⟩) (Kd.V_far (p := ⟨gb3022, 2, none⟩) (Kd.V_far (p := ⟨gb3022, 1, none⟩) (Kd.V_far (p := ⟨gb3022, 0, none⟩) (Kd.V_mono HO3004.out (fun k_ hk => (⟨hk, hk.2⟩ : _ ∧ k_ ≠ gb3022))) (fun _ hk => hk.2) (.slice Ao16 t3012.length co16)) (fun _ hk => hk.2) (.slice Ao19 t3015.length co19)) (fun _ hk => hk.2) (.slice Ao20 t3018.length co20)) (fun _ hk => hk.2) (.bool t3021)) (fun _ hk => ⟨hk.1.1.1.1.2, ⟨hk.1.1.1.2, ⟨hk.1.1.2, ⟨hk.1.1.1.1.1, hk.1.2⟩⟩⟩⟩))⟩
   have n1_ : Aside0 (Kd.V k36 36 ((((w15.setCell ⟨gb3022, 0, none⟩ (.slice Ao16 t3012.length co16)).setCell ⟨gb3022, 1, none⟩ (.slice Ao19 t3015.length co19)).setCell ⟨gb3022, 2, none⟩ (.slice Ao20 t3018.length co20)).setCell ⟨gb3022, 3, none⟩ (.bool t3021)) w.heap.size (fun k_ => some k_ ≠ (.slice Ao16 t3012.length co16 : Value).ownBlock ∧ some k_ ≠ (.slice Ao19 t3015.length co19 : Value).ownBlock ∧ some k_ ≠ (.slice Ao20 t3018.length co20 : Value).ownBlock ∧ k_ ≠ gb3001 ∧ k_ ≠ gb3022) (.slice Ao12 t3005.length co12) t3005) := ⟨Kd.V_ext (Kd.V_mono (Kd.V_far (p := ⟨gb3022, 3, none⟩) (Kd.V_far (p := ⟨gb3022, 2, none⟩) (Kd.V_far (p := ⟨gb3022, 1, none⟩) (Kd.V_far (p := ⟨gb3022, 0, none⟩) (Kd.V_mono HO3007.out (fun k_ hk => (⟨hk, hk.2⟩ : _ ∧ k_ ≠ gb3022))) (fun _ hk => hk.2) (.slice Ao16 t3012.length co16)) (fun _ hk => hk.2) (.slice Ao19 t3015.length co19)) (fun _ hk => hk.2) (.slice Ao20 t3018.length co20)) (fun _ hk => hk.2) (.bool t3021)) (fun _ hk => ⟨hk.1.1.1.1.2, ⟨hk.1.1.1.2, ⟨hk.1.1.2, ⟨hk.1.1.1.1.1, hk.1.2⟩⟩⟩⟩))⟩
   have n2_ : Aside0 (Kd.V k38 38 ((((w15.setCell ⟨gb3022, 0, none⟩ (.slice Ao16 t3012.length co16)).setCell ⟨gb3022, 1, none⟩ (.slice Ao19 t3015.length co19)).setCell ⟨gb3022, 2, none⟩ (.slice Ao20 t3018.length co20)).setCell ⟨gb3022, 3, none⟩ (.bool t3021)) w.heap.size (fun k_ => some k_ ≠ (.slice Ao16 t3012.length co16 : Value).ownBlock ∧ some k_ ≠ (.slice Ao19 t3015.length co19 : Value).ownBlock ∧ some k_ ≠ (.slice Ao20 t3018.length co20 : Value).ownBlock ∧ k_ ≠ gb3001 ∧ k_ ≠ gb3022) (.slice Ao13 t3008.length co13) t3008) := ⟨Kd.V_ext (Kd.V_mono (Kd.V_far (p := ⟨gb3022, 3, none⟩) (Kd.V_far (p := ⟨gb3022, 2, none⟩) (Kd.V_far (p := ⟨gb3022, 1, none⟩) (Kd.V_far (p := ⟨gb3022, 0, none⟩) (Kd.V_mono HO3010.out (fun k_ hk => (⟨hk, hk.2⟩ : _ ∧ k_ ≠ gb3022))) (fun _ hk => hk.2) (.slice Ao16 t3012.length co16)) (fun _ hk => hk.2) (.slice Ao19 t3015.length co19)) (fun _ hk => hk.2) (.slice Ao20 t3018.length co20)) (fun _ hk => hk.2) (.bool t3021)) (fun _ hk => ⟨hk.1.1.1.1.2, ⟨hk.1.1.1.2, ⟨hk.1.1.2, ⟨hk.1.1.1.1.1, hk.1.2⟩⟩⟩⟩))⟩
   have n3_ : Aside0 (Kd.R Kd.string 9 ((((w15.setCell ⟨gb3022, 0, none⟩ (.slice Ao16 t3012.length co16)).setCell ⟨gb3022, 1, none⟩ (.slice Ao19 t3015.length co19)).setCell ⟨gb3022, 2, none⟩ (.slice Ao20 t3018.length co20)).setCell ⟨gb3022, 3, none⟩ (.bool t3021)) w.heap.size (fun _ => True) (.slice Ao16 t3012.length co16) t3012) := ⟨Kd.R_ext (Kd.R_mono (Kd.R_far (p := ⟨gb3022, 3, none⟩) (Kd.R_far (p := ⟨gb3022, 2, none⟩) (Kd.R_far (p := ⟨gb3022, 1, none⟩) (Kd.R_far (p := ⟨gb3022, 0, none⟩) (Kd.R_types HO3014.out BK3022.out (by decide)) (fun _ hk => hk.2) (.slice Ao16 t3012.length co16)) (fun _ hk => hk.2) (.slice Ao19 t3015.length co19)) (fun _ hk => hk.2) (.slice Ao20 t3018.length co20)) (fun _ hk => hk.2) (.bool t3021)) (fun _ hk => trivial))⟩
   have n4_ : Aside0 (Kd.R k36 36 ((((w15.setCell ⟨gb3022, 0, none⟩ (.slice Ao16 t3012.length co16)).setCell ⟨gb3022, 1, none⟩ (.slice Ao19 t3015.length co19)).setCell ⟨gb3022, 2, none⟩ (.slice Ao20 t3018.length co20)).setCell ⟨gb3022, 3, none⟩ (.bool t3021)) w.heap.size (fun _ => True) (.slice Ao19 t3015.length co19) t3015) := ⟨Kd.R_ext (Kd.R_mono (Kd.R_far (p := ⟨gb3022, 3, none⟩) (Kd.R_far (p := ⟨gb3022, 2, none⟩) (Kd.R_far (p := ⟨gb3022, 1, none⟩) (Kd.R_far (p := ⟨gb3022, 0, none⟩) (Kd.R_types HO3017.out BK3022.out (by decide)) (fun _ hk => hk.2) (.slice Ao16 t3012.length co16)) (fun _ hk => hk.2) (.slice Ao19 t3015.length co19)) (fun _ hk => hk.2) (.slice Ao20 t3018.length co20)) (fun _ hk => hk.2) (.bool t3021)) (fun _ hk => trivial))⟩
   have n5_ : Aside0 (Kd.N k38 38 ((((w15.setCell ⟨gb3022, 0, none⟩ (.slice Ao16 t3012.length co16)).setCell ⟨gb3022, 1, none⟩ (.slice Ao19 t3015.length co19)).setCell ⟨gb3022, 2, none⟩ (.slice Ao20 t3018.length co20)).setCell ⟨gb3022, 3, none⟩ (.bool t3021)) w.heap.size (fun k_ => some k_ ≠ (.slice Ao16 t3012.length co16 : Value).ownBlock ∧ some k_ ≠ (.slice Ao19 t3015.length co19 : Value).ownBlock ∧ k_ ≠ gb3001 ∧ k_ ≠ gb3022) (.slice Ao20 t3018.length co20) t3018) := ⟨Kd.N_ext (Kd.N_mono (Kd.N_far (p := ⟨gb3022, 3, none⟩) (Kd.N_far (p := ⟨gb3022, 2, none⟩) (Kd.N_far (p := ⟨gb3022, 1, none⟩) (Kd.N_far (p := ⟨gb3022, 0, none⟩) (Kd.N_mono HO3020.out (fun k_ hk => (⟨hk, hk.2⟩ : _ ∧ k_ ≠ gb3022))) (fun _ hk => hk.2) (.slice Ao16 t3012.length co16)) (fun _ hk => hk.2) (.slice Ao19 t3015.length co19)) (fun _ hk => hk.2) (.slice Ao20 t3018.length co20)) (fun _ hk => hk.2) (.bool t3021)) (fun _ hk => ⟨hk.1.1.1, ⟨hk.1.1.2.1, ⟨hk.1.1.2.2, hk.1.2⟩⟩⟩))⟩
   have n6_ : Aside0 (((((w15.setCell ⟨gb3022, 0, none⟩ (.slice Ao16 t3012.length co16)).setCell ⟨gb3022, 1, none⟩ (.slice Ao19 t3015.length co19)).setCell ⟨gb3022, 2, none⟩ (.slice Ao20 t3018.length co20)).setCell ⟨gb3022, 3, none⟩ (.bool t3021)).heap[gb3001]? = some (.cells #[.slice Ao10 t3002.length co10, .slice Ao12 t3005.length co12, .slice Ao13 t3008.length co13, .bool t3011] 26 (0, 0))) := ⟨blk_extC BK3001.out⟩
   have n7_ : Aside0 (((((w15.setCell ⟨gb3022, 0, none⟩ (.slice Ao16 t3012.length co16)).setCell ⟨gb3022, 1, none⟩ (.slice Ao19 t3015.length co19)).setCell ⟨gb3022, 2, none⟩ (.slice Ao20 t3018.length co20)).setCell ⟨gb3022, 3, none⟩ (.bool t3021)).heap[gb3022]? = some (.cells #[.slice Ao16 t3012.length co16, .slice Ao19 t3015.length co19, .slice Ao20 t3018.length co20, .bool t3021] 26 (0, 0))) := ⟨by (with_reducible repeat (first | refine blk_drewN ?_ _ | refine blk_drew ?_ | refine blk_alloc ?_ _)); refine blk_put (cs := #[.slice Ao16 t3012.length co16, .slice Ao19 t3015.length co19, .slice Ao20 t3018.length co20, .bool false]) ?_ 3 _ rfl; (with_reducible repeat (first | refine blk_drewN ?_ _ | refine blk_drew ?_ | refine blk_alloc ?_ _)); refine blk_put (cs := #[.slice Ao16 t3012.length co16, .slice Ao19 t3015.length co19, .slice none 0 0, .bool false]) ?_ 2 _ rfl; (with_reducible repeat (first | refine blk_drewN ?_ _ | refine blk_drew ?_ | refine blk_alloc ?_ _)); refine blk_put (cs := #[.slice Ao16 t3012.length co16, .slice none 0 0, .slice none 0 0, .bool false]) ?_ 1 _ rfl; (with_reducible repeat (first | refine blk_drewN ?_ _ | refine blk_drew ?_ | refine blk_alloc ?_ _)); refine blk_put (cs := #[.slice none 0 0, .slice none 0 0, .slice none 0 0, .bool false]) ?_ 0 _ rfl; exact blk_ext BK3022.out⟩
   have n8_ : Aside0 (Below w.heap.size w ((((w15.setCell ⟨gb3022, 0, none⟩ (.slice Ao16 t3012.length co16)).setCell ⟨gb3022, 1, none⟩ (.slice Ao19 t3015.length co19)).setCell ⟨gb3022, 2, none⟩ (.slice Ao20 t3018.length co20)).setCell ⟨gb3022, 3, none⟩ (.bool t3021))) := ⟨below_extB HB.out⟩
   (try clear HO3004)
   (try clear HO3007)
   (try clear HO3010)
   (try clear HO3014)
   (try clear HO3017)
   (try clear HO3020)
   (try clear BK3001)
   (try clear BK3022)
   (try clear HB)
   generalize ((((w15.setCell ⟨gb3022, 0, none⟩ (.slice Ao16 t3012.length co16)).setCell ⟨gb3022, 1, none⟩ (.slice Ao19 t3015.length co19)).setCell ⟨gb3022, 2, none⟩ (.slice Ao20 t3018.length co20)).setCell ⟨gb3022, 3, none⟩ (.bool t3021)) = w30 at n0_ n1_ n2_ n3_ n4_ n5_ n6_ n7_ n8_ ⊢
   have HO3004 := n0_
   have HO3007 := n1_
   have HO3010 := n2_
   have HO3014 := n3_
   have HO3017 := n4_
   have HO3020 := n5_
   have BK3001 := n6_
   have BK3022 := n7_
   have HB := n8_
   clear n0_ n1_ n2_ n3_ n4_ n5_ n6_ n7_ n8_
   (try (rw [drewN_self w30]; generalize hq_ : World.drewN w30 _ = w30; have n0_ := Aside0.mk (Kd.V_at hq_ HO3004.out); have n1_ := Aside0.mk (Kd.V_at hq_ HO3007.out); have n2_ := Aside0.mk (Kd.V_at hq_ HO3010.out); have n3_ := Aside0.mk (Kd.R_at hq_ HO3014.out); have n4_ := Aside0.mk (Kd.R_at hq_ HO3017.out); have n5_ := Aside0.mk (Kd.N_at hq_ HO3020.out); have n6_ := Aside0.mk (blk_at hq_ BK3001.out); have n7_ := Aside0.mk (blk_at hq_ BK3022.out); have n8_ := Aside0.mk (below_at hq_ HB.out); clear hq_ HO3004 HO3007 HO3010 HO3014 HO3017 HO3020 BK3001 BK3022 HB; have HO3004 := n0_; have HO3007 := n1_; have HO3010 := n2_; have HO3014 := n3_; have HO3017 := n4_; have HO3020 := n5_; have BK3001 := n6_; have BK3022 := n7_; have HB := n8_; clear n0_ n1_ n2_ n3_ n4_ n5_ n6_ n7_ n8_))
   have n0_ := Aside0.mk (Kd.V_drew HO3004.out)
   have n1_ := Aside0.mk (Kd.V_drew HO3007.out)
   have n2_ := Aside0.mk (Kd.V_drew HO3010.out)
   have n3_ := Aside0.mk (Kd.R_drew HO3014.out)
   have n4_ := Aside0.mk (Kd.R_drew HO3017.out)
   have n5_ := Aside0.mk (Kd.N_drew HO3020.out)
   have n6_ := Aside0.mk (blk_drew BK3001.out)
   have n7_ := Aside0.mk (blk_drew BK3022.out)
   have n8_ := Aside0.mk (below_drew1 HB.out)
   clear HO3004
   clear HO3007
   clear HO3010
   clear HO3014
   clear HO3017
   clear HO3020
   clear BK3001
   clear BK3022
   clear HB
   have HO3004 := n0_
   have HO3007 := n1_
   have HO3010 := n2_
   have HO3014 := n3_
   have HO3017 := n4_
   have HO3020 := n5_
   have BK3001 := n6_
   have BK3022 := n7_
   have HB := n8_
   clear n0_ n1_ n2_ n3_ n4_ n5_ n6_ n7_ n8_
   refine start_ (n := 10) (S := fun w' => w'.cell? ⟨gb3001, 0, none⟩ = some (.slice Ao10 t3002.length co10) ∧ w'.cell? ⟨gb3001, 1, none⟩ = some (.slice Ao12 t3005.length co12) ∧ w'.cell? ⟨gb3001, 2, none⟩ = some (.slice Ao13 t3008.length co13) ∧ w'.cell? ⟨gb3001, 3, none⟩ = some (.bool t3011)) (ds := []) #[false, false, false, false, false, false, false, false, false, false] (by kernel_rfl) rfl rfl ⟨(blk_cell BK3001.out 0).trans rfl, (blk_cell BK3001.out 1).trans rfl, (blk_cell BK3001.out 2).trans rfl, (blk_cell BK3001.out 3).trans rfl⟩ (fun hHeld => ?_); refine with_tabW customslaw08_GoodsValidate.tab3 customslaw08_GoodsValidate.bits3 (fun HT_ HW_ => ?_)
   generalize w30.drew = w31 at HO3004 HO3007 HO3010 HO3014 HO3017 HO3020 BK3001 BK3022 HB hHeld ⊢
   refine take_ (i := 0) (N := some 12) (v := ?_) (a' := ?_) #[true, false, false, false, false, false, false, false, false, false] rfl rfl (take_ofW HT_.out HW_.out (by kernel_rfl)) (fun _ _ _ h => h) (Or.inl ⟨by rfl, ?_⟩) hHeld ?_ ?_
   rotate_left
   ·
    rintro w' ⟨s0, s1, s2, s3⟩
    go_simp
    with_reducible rfl
   rotate_left
   ·
    simp only [Act.put, List.setIfInBounds_toArray, List.set_cons_zero, List.set_cons_succ, i64_w, i32_w]
    rfl
   refine take_ (i := 2) (N := some 14) (v := ?_) (a' := ?_) #[true, false, true, false, false, false, false, false, false, false] rfl rfl (take_ofW HT_.out HW_.out (by kernel_rfl)) (fun _ _ _ h => h) (Or.inl ⟨by rfl, ?_⟩) hHeld ?_ ?_
   rotate_left
   ·
    rintro w' ⟨s0, s1, s2, s3⟩
    go_simp
    with_reducible rfl
   rotate_left
   ·
    simp only [Act.put, List.setIfInBounds_toArray, List.set_cons_zero, List.set_cons_succ, i64_w, i32_w]
    rfl
   refine one_ (i := 1) (N := some 13) #[true, true, true, false, false, false, false, false, false, false] rfl rfl (one_of HT_.out (by kernel_rfl)) (by decide) (fun K hK => ?_)
   refine goes_ Tryd.func10 (by kernel_rfl) rfl #[.agg #[.slice Ao10 t3002.length co10, .slice Ao12 t3005.length co12, .slice Ao13 t3008.length co13, .bool t3011]] (by rfl) rfl rfl (by (try simp only [List.map_toArray, List.map_cons, List.map_nil]); first | done | rfl | (simp only [List.length_drop, List.length_take]; rfl)) ?_
   with_reducible refine (goods_Validate.calls k _ _ t3002 _ _ t3005 _ _ t3008 t3011 t3023 _ ?side1 ?side2 ?side3 ?side4 ?side5 ?side6 A21.out).mono ?_
   (case side1 => exact Kd.C_ext (Kd.V_reads' HO3004.out).2.2)
   (case side2 => exact (Kd.V_reads' HO3004.out).2.1)
   (case side3 => exact Kd.C_ext (Kd.V_reads' HO3007.out).2.2)
   (case side4 => exact (Kd.V_reads' HO3007.out).2.1)
   (case side5 => exact Kd.C_ext (Kd.V_reads' HO3010.out).2.2)
   (case side6 => exact (Kd.V_reads' HO3010.out).2.1)
   rintro e w32 ⟨rfl, hb⟩
   refine ⟨_, rfl, ?_⟩
   replace HO3004 := mvV HO3004 hb
   replace HO3007 := mvV HO3007 hb
   replace HO3010 := mvV HO3010 hb
   replace HO3014 := mvR HO3014 hb
   replace HO3017 := mvR HO3017 hb
   replace HO3020 := mvN HO3020 hb
   replace BK3001 := mvB BK3001 hb
   replace BK3022 := mvB BK3022 hb
   replace HB := mvH HB hb
   (try clear hb)
   (try clear hb2)
   (try clear hk)
   (try clear hi)
   refine hK.out _ _ ⟨(blk_cell BK3001.out 0).trans rfl, (blk_cell BK3001.out 1).trans rfl, (blk_cell BK3001.out 2).trans rfl, (blk_cell BK3001.out 3).trans rfl⟩ (fun hHeld => ?_)
   clear hK K
   refine norm_ (a' := ?_) ?_ ?_
   rotate_left
   ·
    show Act.put _ (some 13) _ = _
    simp only [Act.put, List.setIfInBounds_toArray, List.set_cons_zero, List.set_cons_succ, i64_w, i32_w]
    rfl
   refine one_ (i := 3) (N := some 15) #[true, true, true, true, false, false, false, false, false, false] rfl rfl (one_of HT_.out (by kernel_rfl)) (by decide) (fun K hK => ?_)
   refine goes_ Tryd.func11 (by kernel_rfl) rfl #[.agg #[.slice Ao10 t3002.length co10, .slice Ao12 t3005.length co12, .slice Ao13 t3008.length co13, .bool t3011]] (by rfl) rfl rfl (by (try simp only [List.map_toArray, List.map_cons, List.map_nil]); first | done | rfl | (simp only [List.length_drop, List.length_take]; rfl)) ?_
   with_reducible refine (customsref08_Good.calls k _ _ t3002 _ _ t3005 _ _ t3008 t3011 t3024 _ ?side1 ?side2 ?side3 ?side4 ?side5 ?side6 A22.out).mono ?_
   (case side1 => exact Kd.C_ext (Kd.V_reads' HO3004.out).2.2)
   (case side2 => exact (Kd.V_reads' HO3004.out).2.1)
   (case side3 => exact Kd.C_ext (Kd.V_reads' HO3007.out).2.2)
   (case side4 => exact (Kd.V_reads' HO3007.out).2.1)
   (case side5 => exact Kd.C_ext (Kd.V_reads' HO3010.out).2.2)
   (case side6 => exact (Kd.V_reads' HO3010.out).2.1)
   rintro e w33 ⟨rfl, hb⟩
   refine ⟨_, rfl, ?_⟩
   replace HO3004 := mvV HO3004 hb
   replace HO3007 := mvV HO3007 hb
   replace HO3010 := mvV HO3010 hb
   replace HO3014 := mvR HO3014 hb
   replace HO3017 := mvR HO3017 hb
   replace HO3020 := mvN HO3020 hb
   replace BK3001 := mvB BK3001 hb
   replace BK3022 := mvB BK3022 hb
   replace HB := mvH HB hb
   (try clear hb)
   (try clear hb2)
   (try clear hk)
   (try clear hi)
   refine hK.out _ _ ⟨(blk_cell BK3001.out 0).trans rfl, (blk_cell BK3001.out 1).trans rfl, (blk_cell BK3001.out 2).trans rfl, (blk_cell BK3001.out 3).trans rfl⟩ (fun hHeld => ?_)
   clear hK K
   refine norm_ (a' := ?_) ?_ ?_
   rotate_left
   ·
    show Act.put _ (some 15) _ = _
    simp only [Act.put, List.setIfInBounds_toArray, List.set_cons_zero, List.set_cons_succ, i64_w, i32_w]
    rfl
   refine pure_ (i := 4) (N := some 16) (v := ?_) (a' := ?_) #[true, true, true, true, true, false, false, false, false, false] rfl rfl (any_of HT_.out (by kernel_rfl)) (fun _ _ _ h => h) (Or.inl ⟨by rfl, ?_⟩) ?_ ?_
   rotate_left
   ·
    intro w'
    go_simp
    with_reducible rfl
   rotate_left
   ·
    simp only [Act.put, List.setIfInBounds_toArray, List.set_cons_zero, List.set_cons_succ, i64_w, i32_w]
    rfl
   refine pure_ (i := 5) (N := some 17) (v := ?_) (a' := ?_) #[true, true, true, true, true, true, false, false, false, false] rfl rfl (any_of HT_.out (by kernel_rfl)) (fun _ _ _ h => h) (Or.inl ⟨by rfl, ?_⟩) ?_ ?_
   rotate_left
   ·
    intro w'
    go_simp
    with_reducible rfl
   rotate_left
   ·
    simp only [Act.put, List.setIfInBounds_toArray, List.set_cons_zero, List.set_cons_succ, i64_w, i32_w]
    rfl
   refine pure_ (i := 6) (N := some 18) (v := undef) (a' := ?_) #[true, true, true, true, true, true, true, false, false, false] rfl rfl (any_of HT_.out (by kernel_rfl)) (fun _ _ _ h => h) (Or.inr ⟨by rfl, rfl⟩) ?_ ?_
   rotate_left
   ·
    simp only [Act.put, List.setIfInBounds_toArray, List.set_cons_zero, List.set_cons_succ, i64_w, i32_w]
    rfl
   refine pure_ (i := 7) (N := some 19) (v := undef) (a' := ?_) #[true, true, true, true, true, true, true, true, false, false] rfl rfl (any_of HT_.out (by kernel_rfl)) (fun _ _ _ h => h) (Or.inr ⟨by rfl, rfl⟩) ?_ ?_
   rotate_left
   ·
    simp only [Act.put, List.setIfInBounds_toArray, List.set_cons_zero, List.set_cons_succ, i64_w, i32_w]
    rfl
   refine pure_ (i := 8) (N := some 20) (v := undef) (a' := ?_) #[true, true, true, true, true, true, true, true, true, false] rfl rfl (any_of HT_.out (by kernel_rfl)) (fun _ _ _ h => h) (Or.inr ⟨by rfl, rfl⟩) ?_ ?_
   rotate_left
   ·
    simp only [Act.put, List.setIfInBounds_toArray, List.set_cons_zero, List.set_cons_succ, i64_w, i32_w]
    rfl
   refine pure_ (i := 9) (N := some 21) (v := ?_) (a' := ?_) #[true, true, true, true, true, true, true, true, true, true] rfl rfl (any_of HT_.out (by kernel_rfl)) (fun _ _ _ h => h) (Or.inl ⟨by rfl, ?_⟩) ?_ ?_
   rotate_left
   ·
    intro w'
    go_simp
    with_reducible rfl
   rotate_left
   ·
    simp only [Act.put, List.setIfInBounds_toArray, List.set_cons_zero, List.set_cons_succ, i64_w, i32_w]
    rfl
   refine done_ (done_of HT_.out (by kernel_rfl)) ?_
   try go_wp2
   go_meet
   case rel => exact ⟨_, (true), (by first | rfl | (simp; done) | (simp [*]; done)), H', ⟨by first | omega | exact Nat.le_refl _⟩, ⟨Kd.V_ext HO3004.out⟩, ⟨Kd.V_ext HO3007.out⟩, ⟨Kd.V_ext HO3010.out⟩, ⟨Kd.R_ext HO3014.out⟩, ⟨Kd.R_ext HO3017.out⟩, ⟨Kd.N_ext HO3020.out⟩, ⟨blk_ext BK3001.out⟩, ⟨blk_ext BK3022.out⟩, ⟨below_extB HB.out⟩⟩
 case rest =>
  clear HC6
  try clear c1
  try clear c2
  try clear p2
  try clear c3
  try clear c8
  try clear c9
  try clear c10
  try clear c11
  try clear c17
  try clear c23
  try clear c23b0
  try clear c23b1
  try clear hcz11_0
  try clear hcz11_1
  try clear hcz11_2
  try clear hcz11_3
  try clear hcz18_0
  try clear hcz18_1
  try clear hcz18_2
  try clear hcz18_3
  try clear hcz8_0
  try clear hcz8_1
  try clear hcz8_2
  try clear hcz8_3
  try clear hfz11_0
  try clear hfz11_1
  try clear hfz11_2
  try clear hfz11_3
  try clear hfz18_0
  try clear hfz18_1
  try clear hfz18_2
  try clear hfz18_3
  try clear hfz8_0
  try clear hfz8_1
  try clear hfz8_2
  try clear hfz8_3
  obtain ⟨kq, x21_5, rfl, HA, HJ5, HO_3002000, HO_3002001, HO_3002002, HO_3023000, HO_3023001, HO_3023002, BK3001, BK3022, HB⟩ := hcut
  cases kq with
  | zero => exact absurd HA.out (by simp [customslaw08_GoodsValidate.j0])
  | succ kj5 =>
   have H := HA.out
   clear HA
   simp only [customslaw08_GoodsValidate.j0] at H
   by_cases c34 : x21_5 = true
   ·
    subst c34
    have H1 : (none) = some r := by rw [if_pos rfl] at H; exact H
    clear H
    have H := H1
    clear H1
    exact absurd H (by simp)
   ·
    replace c34 := Bool.eq_false_iff.mpr c34
    subst c34
    have H1 : ((customsmade_Within.f a2 3).bind fun t3026 => (if t3026 = 0 then ((goods_Validate.f kj5 t3002 t3015 t3018 t3021).bind fun t3027 => ((customsref08_Good.f kj5 t3002 t3015 t3018 t3021).bind fun t3028 => (if t3027 = t3028 then ((customslaw08_awake.f kj5).bind fun t3029 => (some t3029)) else (none)))) else (if t3026 = 1 then ((goods_Validate.f kj5 t3012 t3005 t3018 t3021).bind fun t3030 => ((customsref08_Good.f kj5 t3012 t3005 t3018 t3021).bind fun t3031 => (if t3030 = t3031 then ((customslaw08_awake.f kj5).bind fun t3032 => (some t3032)) else (none)))) else ((goods_Validate.f kj5 t3012 t3015 t3008 t3021).bind fun t3033 => ((customsref08_Good.f kj5 t3012 t3015 t3008 t3021).bind fun t3034 => (if t3033 = t3034 then ((customslaw08_awake.f kj5).bind fun t3035 => (some t3035)) else (none))))))) = some r := by rw [if_neg (show ¬ (false = true) by decide)] at H; exact H
    clear H
    have H := H1
    clear H1
    replace H := Option.bind_eq_some_iff.mp H
    obtain ⟨t3026, A350, H⟩ := H
    try dsimp only at H
    have A35 := Aside0.mk A350
    clear A350
    by_cases c36 : t3026 = 0
    ·
     rw [if_pos c36] at H
     have c36b0 : (t3026 == 0) = true := beq_iff_eq.mpr c36
     have c36b1 : (t3026 != 0) = false := bne_eq_false_iff_eq.mpr c36
     clear c36
     replace H := Option.bind_eq_some_iff.mp H
     obtain ⟨t3027, A370, H⟩ := H
     try dsimp only at H
     have A37 := Aside0.mk A370
     clear A370
     replace H := Option.bind_eq_some_iff.mp H
     obtain ⟨t3028, A380, H⟩ := H
     try dsimp only at H
     have A38 := Aside0.mk A380
     clear A380
     by_cases c39 : t3027 = t3028
     ·
      rw [if_pos c39] at H
      have c39b0 : (t3027 == t3028) = true := beq_iff_eq.mpr c39
      have c39b1 : (t3027 != t3028) = false := bne_eq_false_iff_eq.mpr c39
      clear c39
      replace H := Option.bind_eq_some_iff.mp H
      obtain ⟨t3029, A400, H⟩ := H
      try dsimp only at H
      have A40 := Aside0.mk A400
      clear A400
      obtain rfl := Option.some.inj H
      try go_wp2_with (first | ((with_reducible refine gate_callee (f := 12) rfl ?_); refine goesL_ (some 23) rfl rfl Tryd.func12 (by kernel_rfl) rfl #[.int .i64 a2, .int .i64 3] rfl (by (try simp only [List.map_toArray, List.map_cons, List.map_nil]); first | done | rfl | (simp only [List.length_drop, List.length_take]; rfl) | (simp only [i64_w]; done) | (simp (disch := decide) only [Int.tdiv_eq_ediv_of_nonneg]; rfl)) ?_; (with_reducible refine (customsmade_Within.calls a2 3 t3026 _ A35.out).mono ?_); rintro e w' ⟨rfl, ⟨nd, rfl⟩⟩; refine ⟨_, rfl, ?_⟩; (try (rw [drewN_self wc]; generalize hq_ : World.drewN wc _ = wc; have n0_ : Aside0 (Kd.V Kd.string 9 wc w.heap.size (fun k_ => some k_ ≠ (.slice Ao16 t3012.length co16 : Value).ownBlock ∧ some k_ ≠ (.slice Ao19 t3015.length co19 : Value).ownBlock ∧ some k_ ≠ (.slice Ao20 t3018.length co20 : Value).ownBlock ∧ k_ ≠ gb3001 ∧ k_ ≠ gb3022) (.slice Ao10 t3002.length co10) t3002) := ⟨by rw [← hq_]; exact (Kd.V_ext HO_3002000.out)⟩; have n1_ : Aside0 (Kd.V k36 36 wc w.heap.size (fun k_ => some k_ ≠ (.slice Ao16 t3012.length co16 : Value).ownBlock ∧ some k_ ≠ (.slice Ao19 t3015.length co19 : Value).ownBlock ∧ some k_ ≠ (.slice Ao20 t3018.length co20 : Value).ownBlock ∧ k_ ≠ gb3001 ∧ k_ ≠ gb3022) (.slice Ao12 t3005.length co12) t3005) := ⟨by rw [← hq_]; exact (Kd.V_ext HO_3002001.out)⟩; have n2_ : Aside0 (Kd.V k38 38 wc w.heap.size (fun k_ => some k_ ≠ (.slice Ao16 t3012.length co16 : Value).ownBlock ∧ some k_ ≠ (.slice Ao19 t3015.length co19 : Value).ownBlock ∧ some k_ ≠ (.slice Ao20 t3018.length co20 : Value).ownBlock ∧ k_ ≠ gb3001 ∧ k_ ≠ gb3022) (.slice Ao13 t3008.length co13) t3008) := ⟨by rw [← hq_]; exact (Kd.V_ext HO_3002002.out)⟩; have n3_ : Aside0 (Kd.R Kd.string 9 wc w.heap.size (fun _ => True) (.slice Ao16 t3012.length co16) t3012) := ⟨by rw [← hq_]; exact (Kd.R_ext HO_3023000.out)⟩; have n4_ : Aside0 (Kd.R k36 36 wc w.heap.size (fun _ => True) (.slice Ao19 t3015.length co19) t3015) := ⟨by rw [← hq_]; exact (Kd.R_ext HO_3023001.out)⟩; have n5_ : Aside0 (Kd.N k38 38 wc w.heap.size (fun k_ => some k_ ≠ (.slice Ao16 t3012.length co16 : Value).ownBlock ∧ some k_ ≠ (.slice Ao19 t3015.length co19 : Value).ownBlock ∧ k_ ≠ gb3001 ∧ k_ ≠ gb3022) (.slice Ao20 t3018.length co20) t3018) := ⟨by rw [← hq_]; exact (Kd.N_ext HO_3023002.out)⟩; have n6_ : Aside0 (wc.heap[gb3001]? = some (.cells #[.slice Ao10 t3002.length co10, .slice Ao12 t3005.length co12, .slice Ao13 t3008.length co13, .bool t3011] 26 (0, 0))) := ⟨by rw [← hq_]; exact (blk_ext BK3001.out)⟩; have n7_ : Aside0 (wc.heap[gb3022]? = some (.cells #[.slice Ao16 t3012.length co16, .slice Ao19 t3015.length co19, .slice Ao20 t3018.length co20, .bool t3021] 26 (0, 0))) := ⟨by rw [← hq_]; exact (blk_ext BK3022.out)⟩; have n8_ : Aside0 (Below w.heap.size w wc) := ⟨by rw [← hq_]; exact (below_extB HB.out)⟩; clear HO_3002000 HO_3002001 HO_3002002 HO_3023000 HO_3023001 HO_3023002 BK3001 BK3022 HB hq_; have HO_3002000 := n0_; have HO_3002001 := n1_; have HO_3002002 := n2_; have HO_3023000 := n3_; have HO_3023001 := n4_; have HO_3023002 := n5_; have BK3001 := n6_; have BK3022 := n7_; have HB := n8_; clear n0_ n1_ n2_ n3_ n4_ n5_ n6_ n7_ n8_)); have hnb41 := NB3001_3022.out; have hnc41 := NB3022_3001.out; have hcz42_0 : wc.cell? ⟨gb3001, 0, none⟩ = some (.slice Ao10 t3002.length co10) := (blk_cell BK3001.out 0).trans rfl; have hcz42_1 : wc.cell? ⟨gb3001, 1, none⟩ = some (.slice Ao12 t3005.length co12) := (blk_cell BK3001.out 1).trans rfl; have hcz42_2 : wc.cell? ⟨gb3001, 2, none⟩ = some (.slice Ao13 t3008.length co13) := (blk_cell BK3001.out 2).trans rfl; have hcz42_3 : wc.cell? ⟨gb3001, 3, none⟩ = some (.bool t3011) := (blk_cell BK3001.out 3).trans rfl; have hfz42_0 := blk_frozen BK3001.out 0; have hfz42_1 := blk_frozen BK3001.out 1; have hfz42_2 := blk_frozen BK3001.out 2; have hfz42_3 := blk_frozen BK3001.out 3; have hcz43_0 : wc.cell? ⟨gb3022, 0, none⟩ = some (.slice Ao16 t3012.length co16) := (blk_cell BK3022.out 0).trans rfl; have hcz43_1 : wc.cell? ⟨gb3022, 1, none⟩ = some (.slice Ao19 t3015.length co19) := (blk_cell BK3022.out 1).trans rfl; have hcz43_2 : wc.cell? ⟨gb3022, 2, none⟩ = some (.slice Ao20 t3018.length co20) := (blk_cell BK3022.out 2).trans rfl; have hcz43_3 : wc.cell? ⟨gb3022, 3, none⟩ = some (.bool t3021) := (blk_cell BK3022.out 3).trans rfl; have hfz43_0 := blk_frozen BK3022.out 0; have hfz43_1 := blk_frozen BK3022.out 1; have hfz43_2 := blk_frozen BK3022.out 2; have hfz43_3 := blk_frozen BK3022.out 3))
      (try simp only [setCell_drewN])
      have n0_ : Aside0 (Kd.V Kd.string 9 (wc.setCell ⟨gb3022, 0, none⟩ (.slice Ao10 t3002.length co10)) w.heap.size (fun k_ => some k_ ≠ (.slice Ao16 t3012.length co16 : Value).ownBlock ∧ some k_ ≠ (.slice Ao19 t3015.length co19 : Value).ownBlock ∧ some k_ ≠ (.slice Ao20 t3018.length co20 : Value).ownBlock ∧ k_ ≠ gb3001 ∧ k_ ≠ gb3022) (.slice Ao10 t3002.length co10) t3002) := ⟨Kd.V_ext (Kd.V_mono (Kd.V_far (p := ⟨gb3022, 0, none⟩) (Kd.V_mono HO_3002000.out (fun k_ hk => (⟨hk, hk.2.2.2.2⟩ : _ ∧ k_ ≠ gb3022))) (fun _ hk => hk.2) (.slice Ao10 t3002.length co10)) (fun _ hk => ⟨hk.1.1, ⟨hk.1.2.1, ⟨hk.1.2.2.1, ⟨hk.1.2.2.2.1, hk.1.2.2.2.2⟩⟩⟩⟩))⟩
      have n1_ : Aside0 (Kd.V k36 36 (wc.setCell ⟨gb3022, 0, none⟩ (.slice Ao10 t3002.length co10)) w.heap.size (fun k_ => some k_ ≠ (.slice Ao16 t3012.length co16 : Value).ownBlock ∧ some k_ ≠ (.slice Ao19 t3015.length co19 : Value).ownBlock ∧ some k_ ≠ (.slice Ao20 t3018.length co20 : Value).ownBlock ∧ k_ ≠ gb3001 ∧ k_ ≠ gb3022) (.slice Ao12 t3005.length co12) t3005) := ⟨Kd.V_ext (Kd.V_mono (Kd.V_far (p := ⟨gb3022, 0, none⟩) (Kd.V_mono HO_3002001.out (fun k_ hk => (⟨hk, hk.2.2.2.2⟩ : _ ∧ k_ ≠ gb3022))) (fun _ hk => hk.2) (.slice Ao10 t3002.length co10)) (fun _ hk => ⟨hk.1.1, ⟨hk.1.2.1, ⟨hk.1.2.2.1, ⟨hk.1.2.2.2.1, hk.1.2.2.2.2⟩⟩⟩⟩))⟩
      have n2_ : Aside0 (Kd.V k38 38 (wc.setCell ⟨gb3022, 0, none⟩ (.slice Ao10 t3002.length co10)) w.heap.size (fun k_ => some k_ ≠ (.slice Ao16 t3012.length co16 : Value).ownBlock ∧ some k_ ≠ (.slice Ao19 t3015.length co19 : Value).ownBlock ∧ some k_ ≠ (.slice Ao20 t3018.length co20 : Value).ownBlock ∧ k_ ≠ gb3001 ∧ k_ ≠ gb3022) (.slice Ao13 t3008.length co13) t3008) := ⟨Kd.V_ext (Kd.V_mono (Kd.V_far (p := ⟨gb3022, 0, none⟩) (Kd.V_mono HO_3002002.out (fun k_ hk => (⟨hk, hk.2.2.2.2⟩ : _ ∧ k_ ≠ gb3022))) (fun _ hk => hk.2) (.slice Ao10 t3002.length co10)) (fun _ hk => ⟨hk.1.1, ⟨hk.1.2.1, ⟨hk.1.2.2.1, ⟨hk.1.2.2.2.1, hk.1.2.2.2.2⟩⟩⟩⟩))⟩
      have n3_ : Aside0 (Kd.R Kd.string 9 (wc.setCell ⟨gb3022, 0, none⟩ (.slice Ao10 t3002.length co10)) w.heap.size (fun _ => True) (.slice Ao16 t3012.length co16) t3012) := ⟨Kd.R_ext (Kd.R_mono (Kd.R_far (p := ⟨gb3022, 0, none⟩) (Kd.R_types HO_3023000.out BK3022.out (by decide)) (fun _ hk => hk.2) (.slice Ao10 t3002.length co10)) (fun _ hk => trivial))⟩
      have n4_ : Aside0 (Kd.R k36 36 (wc.setCell ⟨gb3022, 0, none⟩ (.slice Ao10 t3002.length co10)) w.heap.size (fun _ => True) (.slice Ao19 t3015.length co19) t3015) := ⟨Kd.R_ext (Kd.R_mono (Kd.R_far (p := ⟨gb3022, 0, none⟩) (Kd.R_types HO_3023001.out BK3022.out (by decide)) (fun _ hk => hk.2) (.slice Ao10 t3002.length co10)) (fun _ hk => trivial))⟩
      have n5_ : Aside0 (Kd.N k38 38 (wc.setCell ⟨gb3022, 0, none⟩ (.slice Ao10 t3002.length co10)) w.heap.size (fun k_ => some k_ ≠ (.slice Ao16 t3012.length co16 : Value).ownBlock ∧ some k_ ≠ (.slice Ao19 t3015.length co19 : Value).ownBlock ∧ k_ ≠ gb3001 ∧ k_ ≠ gb3022) (.slice Ao20 t3018.length co20) t3018) := ⟨Kd.N_ext (Kd.N_mono (Kd.N_far (p := ⟨gb3022, 0, none⟩) (Kd.N_mono HO_3023002.out (fun k_ hk => (⟨hk, hk.2.2.2⟩ : _ ∧ k_ ≠ gb3022))) (fun _ hk => hk.2) (.slice Ao10 t3002.length co10)) (fun _ hk => ⟨hk.1.1, ⟨hk.1.2.1, ⟨hk.1.2.2.1, hk.1.2.2.2⟩⟩⟩))⟩
      have n6_ : Aside0 ((wc.setCell ⟨gb3022, 0, none⟩ (.slice Ao10 t3002.length co10)).heap[gb3001]? = some (.cells #[.slice Ao10 t3002.length co10, .slice Ao12 t3005.length co12, .slice Ao13 t3008.length co13, .bool t3011] 26 (0, 0))) := ⟨blk_extC BK3001.out⟩
      have n7_ : Aside0 ((wc.setCell ⟨gb3022, 0, none⟩ (.slice Ao10 t3002.length co10)).heap[gb3022]? = some (.cells #[.slice Ao10 t3002.length co10, .slice Ao19 t3015.length co19, .slice Ao20 t3018.length co20, .bool t3021] 26 (0, 0))) := ⟨by (with_reducible repeat (first | refine blk_drewN ?_ _ | refine blk_drew ?_ | refine blk_alloc ?_ _)); refine blk_put (cs := #[.slice Ao16 t3012.length co16, .slice Ao19 t3015.length co19, .slice Ao20 t3018.length co20, .bool t3021]) ?_ 0 _ rfl; exact blk_ext BK3022.out⟩
      have n8_ : Aside0 (Below w.heap.size w (wc.setCell ⟨gb3022, 0, none⟩ (.slice Ao10 t3002.length co10))) := ⟨below_extB HB.out⟩
      (try clear HO_3002000)
      (try clear HO_3002001)
      (try clear HO_3002002)
      (try clear HO_3023000)
      (try clear HO_3023001)
      (try clear HO_3023002)
      (try clear BK3001)
      (try clear BK3022)
      (try clear HB)
      generalize (wc.setCell ⟨gb3022, 0, none⟩ (.slice Ao10 t3002.length co10)) = w44 at n0_ n1_ n2_ n3_ n4_ n5_ n6_ n7_ n8_ ⊢
      have HO_3002000 := n0_
      have HO_3002001 := n1_
      have HO_3002002 := n2_
      have HO_3023000 := n3_
      have HO_3023001 := n4_
      have HO_3023002 := n5_
      have BK3001 := n6_
      have BK3022 := n7_
      have HB := n8_
      clear n0_ n1_ n2_ n3_ n4_ n5_ n6_ n7_ n8_
      (try (rw [drewN_self w44]; generalize hq_ : World.drewN w44 _ = w44; have n0_ := Aside0.mk (Kd.V_at hq_ HO_3002000.out); have n1_ := Aside0.mk (Kd.V_at hq_ HO_3002001.out); have n2_ := Aside0.mk (Kd.V_at hq_ HO_3002002.out); have n3_ := Aside0.mk (Kd.R_at hq_ HO_3023000.out); have n4_ := Aside0.mk (Kd.R_at hq_ HO_3023001.out); have n5_ := Aside0.mk (Kd.N_at hq_ HO_3023002.out); have n6_ := Aside0.mk (blk_at hq_ BK3001.out); have n7_ := Aside0.mk (blk_at hq_ BK3022.out); have n8_ := Aside0.mk (below_at hq_ HB.out); clear hq_ HO_3002000 HO_3002001 HO_3002002 HO_3023000 HO_3023001 HO_3023002 BK3001 BK3022 HB; have HO_3002000 := n0_; have HO_3002001 := n1_; have HO_3002002 := n2_; have HO_3023000 := n3_; have HO_3023001 := n4_; have HO_3023002 := n5_; have BK3001 := n6_; have BK3022 := n7_; have HB := n8_; clear n0_ n1_ n2_ n3_ n4_ n5_ n6_ n7_ n8_))
      have n0_ := Aside0.mk (Kd.V_drew HO_3002000.out)
      have n1_ := Aside0.mk (Kd.V_drew HO_3002001.out)
      have n2_ := Aside0.mk (Kd.V_drew HO_3002002.out)
      have n3_ := Aside0.mk (Kd.R_drew HO_3023000.out)
      have n4_ := Aside0.mk (Kd.R_drew HO_3023001.out)
      have n5_ := Aside0.mk (Kd.N_drew HO_3023002.out)
      have n6_ := Aside0.mk (blk_drew BK3001.out)
      have n7_ := Aside0.mk (blk_drew BK3022.out)
      have n8_ := Aside0.mk (below_drew1 HB.out)
      clear HO_3002000
      clear HO_3002001
      clear HO_3002002
      clear HO_3023000
      clear HO_3023001
      clear HO_3023002
      clear BK3001
      clear BK3022
      clear HB
      have HO_3002000 := n0_
      have HO_3002001 := n1_
      have HO_3002002 := n2_
      have HO_3023000 := n3_
      have HO_3023001 := n4_
      have HO_3023002 := n5_
      have BK3001 := n6_
      have BK3022 := n7_
      have HB := n8_
      clear n0_ n1_ n2_ n3_ n4_ n5_ n6_ n7_ n8_
      refine start_ (n := 9) (S := fun w' => w'.cell? ⟨gb3022, 0, none⟩ = some (.slice Ao10 t3002.length co10) ∧ w'.cell? ⟨gb3022, 1, none⟩ = some (.slice Ao19 t3015.length co19) ∧ w'.cell? ⟨gb3022, 2, none⟩ = some (.slice Ao20 t3018.length co20) ∧ w'.cell? ⟨gb3022, 3, none⟩ = some (.bool t3021)) (ds := []) #[false, false, false, false, false, false, false, false, false] (by kernel_rfl) rfl rfl ⟨(blk_cell BK3022.out 0).trans rfl, (blk_cell BK3022.out 1).trans rfl, (blk_cell BK3022.out 2).trans rfl, (blk_cell BK3022.out 3).trans rfl⟩ (fun hHeld => ?_); refine with_tabW customslaw08_GoodsValidate.tab11 customslaw08_GoodsValidate.bits11 (fun HT_ HW_ => ?_)
      generalize w44.drew = w45 at HO_3002000 HO_3002001 HO_3002002 HO_3023000 HO_3023001 HO_3023002 BK3001 BK3022 HB hHeld ⊢
      refine take_ (i := 0) (N := some 37) (v := ?_) (a' := ?_) #[true, false, false, false, false, false, false, false, false] rfl rfl (take_ofW HT_.out HW_.out (by kernel_rfl)) (fun _ _ _ h => h) (Or.inl ⟨by rfl, ?_⟩) hHeld ?_ ?_
      rotate_left
      ·
       rintro w' ⟨s0, s1, s2, s3⟩
       go_simp
       with_reducible rfl
      rotate_left
      ·
       simp only [Act.put, List.setIfInBounds_toArray, List.set_cons_zero, List.set_cons_succ, i64_w, i32_w]
       rfl
      refine take_ (i := 2) (N := some 39) (v := ?_) (a' := ?_) #[true, false, true, false, false, false, false, false, false] rfl rfl (take_ofW HT_.out HW_.out (by kernel_rfl)) (fun _ _ _ h => h) (Or.inl ⟨by rfl, ?_⟩) hHeld ?_ ?_
      rotate_left
      ·
       rintro w' ⟨s0, s1, s2, s3⟩
       go_simp
       with_reducible rfl
      rotate_left
      ·
       simp only [Act.put, List.setIfInBounds_toArray, List.set_cons_zero, List.set_cons_succ, i64_w, i32_w]
       rfl
      refine one_ (i := 1) (N := some 38) #[true, true, true, false, false, false, false, false, false] rfl rfl (one_of HT_.out (by kernel_rfl)) (by decide) (fun K hK => ?_)
      refine goes_ Tryd.func10 (by kernel_rfl) rfl #[.agg #[.slice Ao10 t3002.length co10, .slice Ao19 t3015.length co19, .slice Ao20 t3018.length co20, .bool t3021]] (by rfl) rfl rfl (by (try simp only [List.map_toArray, List.map_cons, List.map_nil]); first | done | rfl | (simp only [List.length_drop, List.length_take]; rfl)) ?_
      with_reducible refine (goods_Validate.calls kj5 _ _ t3002 _ _ t3015 _ _ t3018 t3021 t3027 _ ?side1 ?side2 ?side3 ?side4 ?side5 ?side6 A37.out).mono ?_
      (case side1 => exact Kd.C_ext (Kd.V_reads' HO_3002000.out).2.2)
      (case side2 => exact (Kd.V_reads' HO_3002000.out).2.1)
      (case side3 => exact Kd.C_ext (Kd.R_reads' HO_3023001.out).2.2)
      (case side4 => exact (Kd.R_reads' HO_3023001.out).2.1)
      (case side5 => exact Kd.C_ext (Kd.N_reads' HO_3023002.out).2.2)
      (case side6 => exact (Kd.N_reads' HO_3023002.out).2.1)
      rintro e w46 ⟨rfl, hb⟩
      refine ⟨_, rfl, ?_⟩
      replace HO_3002000 := mvV HO_3002000 hb
      replace HO_3002001 := mvV HO_3002001 hb
      replace HO_3002002 := mvV HO_3002002 hb
      replace HO_3023000 := mvR HO_3023000 hb
      replace HO_3023001 := mvR HO_3023001 hb
      replace HO_3023002 := mvN HO_3023002 hb
      replace BK3001 := mvB BK3001 hb
      replace BK3022 := mvB BK3022 hb
      replace HB := mvH HB hb
      (try clear hb)
      (try clear hb2)
      (try clear hk)
      (try clear hi)
      refine hK.out _ _ ⟨(blk_cell BK3022.out 0).trans rfl, (blk_cell BK3022.out 1).trans rfl, (blk_cell BK3022.out 2).trans rfl, (blk_cell BK3022.out 3).trans rfl⟩ (fun hHeld => ?_)
      clear hK K
      refine norm_ (a' := ?_) ?_ ?_
      rotate_left
      ·
       show Act.put _ (some 38) _ = _
       simp only [Act.put, List.setIfInBounds_toArray, List.set_cons_zero, List.set_cons_succ, i64_w, i32_w]
       rfl
      refine one_ (i := 3) (N := some 40) #[true, true, true, true, false, false, false, false, false] rfl rfl (one_of HT_.out (by kernel_rfl)) (by decide) (fun K hK => ?_)
      refine goes_ Tryd.func11 (by kernel_rfl) rfl #[.agg #[.slice Ao10 t3002.length co10, .slice Ao19 t3015.length co19, .slice Ao20 t3018.length co20, .bool t3021]] (by rfl) rfl rfl (by (try simp only [List.map_toArray, List.map_cons, List.map_nil]); first | done | rfl | (simp only [List.length_drop, List.length_take]; rfl)) ?_
      with_reducible refine (customsref08_Good.calls kj5 _ _ t3002 _ _ t3015 _ _ t3018 t3021 t3028 _ ?side1 ?side2 ?side3 ?side4 ?side5 ?side6 A38.out).mono ?_
      (case side1 => exact Kd.C_ext (Kd.V_reads' HO_3002000.out).2.2)
      (case side2 => exact (Kd.V_reads' HO_3002000.out).2.1)
      (case side3 => exact Kd.C_ext (Kd.R_reads' HO_3023001.out).2.2)
      (case side4 => exact (Kd.R_reads' HO_3023001.out).2.1)
      (case side5 => exact Kd.C_ext (Kd.N_reads' HO_3023002.out).2.2)
      (case side6 => exact (Kd.N_reads' HO_3023002.out).2.1)
      rintro e w47 ⟨rfl, hb⟩
      refine ⟨_, rfl, ?_⟩
      replace HO_3002000 := mvV HO_3002000 hb
      replace HO_3002001 := mvV HO_3002001 hb
      replace HO_3002002 := mvV HO_3002002 hb
      replace HO_3023000 := mvR HO_3023000 hb
      replace HO_3023001 := mvR HO_3023001 hb
      replace HO_3023002 := mvN HO_3023002 hb
      replace BK3001 := mvB BK3001 hb
      replace BK3022 := mvB BK3022 hb
      replace HB := mvH HB hb
      (try clear hb)
      (try clear hb2)
      (try clear hk)
      (try clear hi)
      refine hK.out _ _ ⟨(blk_cell BK3022.out 0).trans rfl, (blk_cell BK3022.out 1).trans rfl, (blk_cell BK3022.out 2).trans rfl, (blk_cell BK3022.out 3).trans rfl⟩ (fun hHeld => ?_)
      clear hK K
      refine norm_ (a' := ?_) ?_ ?_
      rotate_left
      ·
       show Act.put _ (some 40) _ = _
       simp only [Act.put, List.setIfInBounds_toArray, List.set_cons_zero, List.set_cons_succ, i64_w, i32_w]
       rfl
      refine pure_ (i := 4) (N := some 41) (v := ?_) (a' := ?_) #[true, true, true, true, true, false, false, false, false] rfl rfl (any_of HT_.out (by kernel_rfl)) (fun _ _ _ h => h) (Or.inl ⟨by rfl, ?_⟩) ?_ ?_
      rotate_left
      ·
       intro w'
       go_simp
       with_reducible rfl
      rotate_left
      ·
       simp only [Act.put, List.setIfInBounds_toArray, List.set_cons_zero, List.set_cons_succ, i64_w, i32_w]
       rfl
      refine pure_ (i := 5) (N := some 42) (v := ?_) (a' := ?_) #[true, true, true, true, true, true, false, false, false] rfl rfl (any_of HT_.out (by kernel_rfl)) (fun _ _ _ h => h) (Or.inl ⟨by rfl, ?_⟩) ?_ ?_
      rotate_left
      ·
       intro w'
       go_simp
       with_reducible rfl
      rotate_left
      ·
       simp only [Act.put, List.setIfInBounds_toArray, List.set_cons_zero, List.set_cons_succ, i64_w, i32_w]
       rfl
      refine one_ (i := 6) (N := some 43) #[true, true, true, true, true, true, true, false, false] rfl rfl (one_of HT_.out (by kernel_rfl)) (by decide) (fun K hK => ?_)
      refine goes_ Tryd.func13 (by kernel_rfl) rfl #[] (by rfl) rfl rfl (by (try simp only [List.map_toArray, List.map_cons, List.map_nil]); first | done | rfl | (simp only [List.length_drop, List.length_take]; rfl)) ?_
      with_reducible refine (customslaw08_awake.calls kj5  t3029 _ A40.out ?side1).mono ?_
      (case side1 => exact GL.below HG.out (below_extB HB.out))
      rintro e w48 ⟨rfl, hb⟩
      refine ⟨_, rfl, ?_⟩
      replace HO_3002000 := mvV HO_3002000 hb
      replace HO_3002001 := mvV HO_3002001 hb
      replace HO_3002002 := mvV HO_3002002 hb
      replace HO_3023000 := mvR HO_3023000 hb
      replace HO_3023001 := mvR HO_3023001 hb
      replace HO_3023002 := mvN HO_3023002 hb
      replace BK3001 := mvB BK3001 hb
      replace BK3022 := mvB BK3022 hb
      replace HB := mvH HB hb
      (try clear hb)
      (try clear hb2)
      (try clear hk)
      (try clear hi)
      refine hK.out _ _ ⟨(blk_cell BK3022.out 0).trans rfl, (blk_cell BK3022.out 1).trans rfl, (blk_cell BK3022.out 2).trans rfl, (blk_cell BK3022.out 3).trans rfl⟩ (fun hHeld => ?_)
      clear hK K
      refine norm_ (a' := ?_) ?_ ?_
      rotate_left
      ·
       show Act.put _ (some 43) _ = _
       simp only [Act.put, List.setIfInBounds_toArray, List.set_cons_zero, List.set_cons_succ, i64_w, i32_w]
       rfl
      refine pure_ (i := 7) (N := some 44) (v := ?_) (a' := ?_) #[true, true, true, true, true, true, true, true, false] rfl rfl (any_of HT_.out (by kernel_rfl)) (fun _ _ _ h => h) (Or.inl ⟨by rfl, ?_⟩) ?_ ?_
      rotate_left
      ·
       intro w'
       go_simp
       with_reducible rfl
      rotate_left
      ·
       simp only [Act.put, List.setIfInBounds_toArray, List.set_cons_zero, List.set_cons_succ, i64_w, i32_w]
       rfl
      refine pure_ (i := 8) (N := some 6) (v := ?_) (a' := ?_) #[true, true, true, true, true, true, true, true, true] rfl rfl (any_of HT_.out (by kernel_rfl)) (fun _ _ _ h => h) (Or.inl ⟨by rfl, ?_⟩) ?_ ?_
      rotate_left
      ·
       intro w'
       go_simp
       with_reducible rfl
      rotate_left
      ·
       simp only [Act.put, List.setIfInBounds_toArray, List.set_cons_zero, List.set_cons_succ, i64_w, i32_w]
       rfl
      refine done_ (done_of HT_.out (by kernel_rfl)) ?_
      try go_wp2
      go_ret
      exact ⟨by first | rfl | (simp [errW_none, errW_some] <;> rfl) | (simp [*, errW_none, errW_some] <;> rfl), below_extB HB.out⟩
     ·
      rw [if_neg c39] at H
      have c39b0 : (t3027 == t3028) = false := beq_eq_false_iff_ne.mpr c39
      have c39b1 : (t3027 != t3028) = true := bne_iff_ne.mpr c39
      exact absurd H (by simp)
    ·
     rw [if_neg c36] at H
     have c36b0 : (t3026 == 0) = false := beq_eq_false_iff_ne.mpr c36
     have c36b1 : (t3026 != 0) = true := bne_iff_ne.mpr c36
     by_cases c49 : t3026 = 1
     ·
      rw [if_pos c49] at H
      have c49b0 : (t3026 == 1) = true := beq_iff_eq.mpr c49
      have c49b1 : (t3026 != 1) = false := bne_eq_false_iff_eq.mpr c49
      clear c49
      replace H := Option.bind_eq_some_iff.mp H
      obtain ⟨t3030, A500, H⟩ := H
      try dsimp only at H
      have A50 := Aside0.mk A500
      clear A500
      replace H := Option.bind_eq_some_iff.mp H
      obtain ⟨t3031, A510, H⟩ := H
      try dsimp only at H
      have A51 := Aside0.mk A510
      clear A510
      by_cases c52 : t3030 = t3031
      ·
       rw [if_pos c52] at H
       have c52b0 : (t3030 == t3031) = true := beq_iff_eq.mpr c52
       have c52b1 : (t3030 != t3031) = false := bne_eq_false_iff_eq.mpr c52
       clear c52
       replace H := Option.bind_eq_some_iff.mp H
       obtain ⟨t3032, A530, H⟩ := H
       try dsimp only at H
       have A53 := Aside0.mk A530
       clear A530
       obtain rfl := Option.some.inj H
       try go_wp2_with (first | ((with_reducible refine gate_callee (f := 12) rfl ?_); refine goesL_ (some 23) rfl rfl Tryd.func12 (by kernel_rfl) rfl #[.int .i64 a2, .int .i64 3] rfl (by (try simp only [List.map_toArray, List.map_cons, List.map_nil]); first | done | rfl | (simp only [List.length_drop, List.length_take]; rfl) | (simp only [i64_w]; done) | (simp (disch := decide) only [Int.tdiv_eq_ediv_of_nonneg]; rfl)) ?_; (with_reducible refine (customsmade_Within.calls a2 3 t3026 _ A35.out).mono ?_); rintro e w' ⟨rfl, ⟨nd, rfl⟩⟩; refine ⟨_, rfl, ?_⟩; (try (rw [drewN_self wc]; generalize hq_ : World.drewN wc _ = wc; have n0_ : Aside0 (Kd.V Kd.string 9 wc w.heap.size (fun k_ => some k_ ≠ (.slice Ao16 t3012.length co16 : Value).ownBlock ∧ some k_ ≠ (.slice Ao19 t3015.length co19 : Value).ownBlock ∧ some k_ ≠ (.slice Ao20 t3018.length co20 : Value).ownBlock ∧ k_ ≠ gb3001 ∧ k_ ≠ gb3022) (.slice Ao10 t3002.length co10) t3002) := ⟨by rw [← hq_]; exact (Kd.V_ext HO_3002000.out)⟩; have n1_ : Aside0 (Kd.V k36 36 wc w.heap.size (fun k_ => some k_ ≠ (.slice Ao16 t3012.length co16 : Value).ownBlock ∧ some k_ ≠ (.slice Ao19 t3015.length co19 : Value).ownBlock ∧ some k_ ≠ (.slice Ao20 t3018.length co20 : Value).ownBlock ∧ k_ ≠ gb3001 ∧ k_ ≠ gb3022) (.slice Ao12 t3005.length co12) t3005) := ⟨by rw [← hq_]; exact (Kd.V_ext HO_3002001.out)⟩; have n2_ : Aside0 (Kd.V k38 38 wc w.heap.size (fun k_ => some k_ ≠ (.slice Ao16 t3012.length co16 : Value).ownBlock ∧ some k_ ≠ (.slice Ao19 t3015.length co19 : Value).ownBlock ∧ some k_ ≠ (.slice Ao20 t3018.length co20 : Value).ownBlock ∧ k_ ≠ gb3001 ∧ k_ ≠ gb3022) (.slice Ao13 t3008.length co13) t3008) := ⟨by rw [← hq_]; exact (Kd.V_ext HO_3002002.out)⟩; have n3_ : Aside0 (Kd.R Kd.string 9 wc w.heap.size (fun _ => True) (.slice Ao16 t3012.length co16) t3012) := ⟨by rw [← hq_]; exact (Kd.R_ext HO_3023000.out)⟩; have n4_ : Aside0 (Kd.R k36 36 wc w.heap.size (fun _ => True) (.slice Ao19 t3015.length co19) t3015) := ⟨by rw [← hq_]; exact (Kd.R_ext HO_3023001.out)⟩; have n5_ : Aside0 (Kd.N k38 38 wc w.heap.size (fun k_ => some k_ ≠ (.slice Ao16 t3012.length co16 : Value).ownBlock ∧ some k_ ≠ (.slice Ao19 t3015.length co19 : Value).ownBlock ∧ k_ ≠ gb3001 ∧ k_ ≠ gb3022) (.slice Ao20 t3018.length co20) t3018) := ⟨by rw [← hq_]; exact (Kd.N_ext HO_3023002.out)⟩; have n6_ : Aside0 (wc.heap[gb3001]? = some (.cells #[.slice Ao10 t3002.length co10, .slice Ao12 t3005.length co12, .slice Ao13 t3008.length co13, .bool t3011] 26 (0, 0))) := ⟨by rw [← hq_]; exact (blk_ext BK3001.out)⟩; have n7_ : Aside0 (wc.heap[gb3022]? = some (.cells #[.slice Ao16 t3012.length co16, .slice Ao19 t3015.length co19, .slice Ao20 t3018.length co20, .bool t3021] 26 (0, 0))) := ⟨by rw [← hq_]; exact (blk_ext BK3022.out)⟩; have n8_ : Aside0 (Below w.heap.size w wc) := ⟨by rw [← hq_]; exact (below_extB HB.out)⟩; clear HO_3002000 HO_3002001 HO_3002002 HO_3023000 HO_3023001 HO_3023002 BK3001 BK3022 HB hq_; have HO_3002000 := n0_; have HO_3002001 := n1_; have HO_3002002 := n2_; have HO_3023000 := n3_; have HO_3023001 := n4_; have HO_3023002 := n5_; have BK3001 := n6_; have BK3022 := n7_; have HB := n8_; clear n0_ n1_ n2_ n3_ n4_ n5_ n6_ n7_ n8_)); have hnb54 := NB3001_3022.out; have hnc54 := NB3022_3001.out; have hcz55_0 : wc.cell? ⟨gb3001, 0, none⟩ = some (.slice Ao10 t3002.length co10) := (blk_cell BK3001.out 0).trans rfl; have hcz55_1 : wc.cell? ⟨gb3001, 1, none⟩ = some (.slice Ao12 t3005.length co12) := (blk_cell BK3001.out 1).trans rfl; have hcz55_2 : wc.cell? ⟨gb3001, 2, none⟩ = some (.slice Ao13 t3008.length co13) := (blk_cell BK3001.out 2).trans rfl; have hcz55_3 : wc.cell? ⟨gb3001, 3, none⟩ = some (.bool t3011) := (blk_cell BK3001.out 3).trans rfl; have hfz55_0 := blk_frozen BK3001.out 0; have hfz55_1 := blk_frozen BK3001.out 1; have hfz55_2 := blk_frozen BK3001.out 2; have hfz55_3 := blk_frozen BK3001.out 3; have hcz56_0 : wc.cell? ⟨gb3022, 0, none⟩ = some (.slice Ao16 t3012.length co16) := (blk_cell BK3022.out 0).trans rfl; have hcz56_1 : wc.cell? ⟨gb3022, 1, none⟩ = some (.slice Ao19 t3015.length co19) := (blk_cell BK3022.out 1).trans rfl; have hcz56_2 : wc.cell? ⟨gb3022, 2, none⟩ = some (.slice Ao20 t3018.length co20) := (blk_cell BK3022.out 2).trans rfl; have hcz56_3 : wc.cell? ⟨gb3022, 3, none⟩ = some (.bool t3021) := (blk_cell BK3022.out 3).trans rfl; have hfz56_0 := blk_frozen BK3022.out 0; have hfz56_1 := blk_frozen BK3022.out 1; have hfz56_2 := blk_frozen BK3022.out 2; have hfz56_3 := blk_frozen BK3022.out 3))
       (try simp only [setCell_drewN])
       have n0_ : Aside0 (Kd.V Kd.string 9 (wc.setCell ⟨gb3022, 1, none⟩ (.slice Ao12 t3005.length co12)) w.heap.size (fun k_ => some k_ ≠ (.slice Ao16 t3012.length co16 : Value).ownBlock ∧ some k_ ≠ (.slice Ao19 t3015.length co19 : Value).ownBlock ∧ some k_ ≠ (.slice Ao20 t3018.length co20 : Value).ownBlock ∧ k_ ≠ gb3001 ∧ k_ ≠ gb3022) (.slice Ao10 t3002.length co10) t3002) := ⟨Kd.V_ext (Kd.V_mono (Kd.V_far (p := ⟨gb3022, 1, none⟩) (Kd.V_mono HO_3002000.out (fun k_ hk => (⟨hk, hk.2.2.2.2⟩ : _ ∧ k_ ≠ gb3022))) (fun _ hk => hk.2) (.slice Ao12 t3005.length co12)) (fun _ hk => ⟨hk.1.1, ⟨hk.1.2.1, ⟨hk.1.2.2.1, ⟨hk.1.2.2.2.1, hk.1.2.2.2.2⟩⟩⟩⟩))⟩
       have n1_ : Aside0 (Kd.V k36 36 (wc.setCell ⟨gb3022, 1, none⟩ (.slice Ao12 t3005.length co12)) w.heap.size (fun k_ => some k_ ≠ (.slice Ao16 t3012.length co16 : Value).ownBlock ∧ some k_ ≠ (.slice Ao19 t3015.length co19 : Value).ownBlock ∧ some k_ ≠ (.slice Ao20 t3018.length co20 : Value).ownBlock ∧ k_ ≠ gb3001 ∧ k_ ≠ gb3022) (.slice Ao12 t3005.length co12) t3005) := ⟨Kd.V_ext (Kd.V_mono (Kd.V_far (p := ⟨gb3022, 1, none⟩) (Kd.V_mono HO_3002001.out (fun k_ hk => (⟨hk, hk.2.2.2.2⟩ : _ ∧ k_ ≠ gb3022))) (fun _ hk => hk.2) (.slice Ao12 t3005.length co12)) (fun _ hk => ⟨hk.1.1, ⟨hk.1.2.1, ⟨hk.1.2.2.1, ⟨hk.1.2.2.2.1, hk.1.2.2.2.2⟩⟩⟩⟩))⟩
       have n2_ : Aside0 (Kd.V k38 38 (wc.setCell ⟨gb3022, 1, none⟩ (.slice Ao12 t3005.length co12)) w.heap.size (fun k_ => some k_ ≠ (.slice Ao16 t3012.length co16 : Value).ownBlock ∧ some k_ ≠ (.slice Ao19 t3015.length co19 : Value).ownBlock ∧ some k_ ≠ (.slice Ao20 t3018.length co20 : Value).ownBlock ∧ k_ ≠ gb3001 ∧ k_ ≠ gb3022) (.slice Ao13 t3008.length co13) t3008) := ⟨Kd.V_ext (Kd.V_mono (Kd.V_far (p := ⟨gb3022, 1, none⟩) (Kd.V_mono HO_3002002.out (fun k_ hk => (⟨hk, hk.2.2.2.2⟩ : _ ∧ k_ ≠ gb3022))) (fun _ hk => hk.2) (.slice Ao12 t3005.length co12)) (fun _ hk => ⟨hk.1.1, ⟨hk.1.2.1, ⟨hk.1.2.2.1, ⟨hk.1.2.2.2.1, hk.1.2.2.2.2⟩⟩⟩⟩))⟩
       have n3_ : Aside0 (Kd.R Kd.string 9 (wc.setCell ⟨gb3022, 1, none⟩ (.slice Ao12 t3005.length co12)) w.heap.size (fun _ => True) (.slice Ao16 t3012.length co16) t3012) := ⟨Kd.R_ext (Kd.R_mono (Kd.R_far (p := ⟨gb3022, 1, none⟩) (Kd.R_types HO_3023000.out BK3022.out (by decide)) (fun _ hk => hk.2) (.slice Ao12 t3005.length co12)) (fun _ hk => trivial))⟩
       have n4_ : Aside0 (Kd.R k36 36 (wc.setCell ⟨gb3022, 1, none⟩ (.slice Ao12 t3005.length co12)) w.heap.size (fun _ => True) (.slice Ao19 t3015.length co19) t3015) := ⟨Kd.R_ext (Kd.R_mono (Kd.R_far (p := ⟨gb3022, 1, none⟩) (Kd.R_types HO_3023001.out BK3022.out (by decide)) (fun _ hk => hk.2) (.slice Ao12 t3005.length co12)) (fun _ hk => trivial))⟩
       have n5_ : Aside0 (Kd.N k38 38 (wc.setCell ⟨gb3022, 1, none⟩ (.slice Ao12 t3005.length co12)) w.heap.size (fun k_ => some k_ ≠ (.slice Ao16 t3012.length co16 : Value).ownBlock ∧ some k_ ≠ (.slice Ao19 t3015.length co19 : Value).ownBlock ∧ k_ ≠ gb3001 ∧ k_ ≠ gb3022) (.slice Ao20 t3018.length co20) t3018) := ⟨Kd.N_ext (Kd.N_mono (Kd.N_far (p := ⟨gb3022, 1, none⟩) (Kd.N_mono HO_3023002.out (fun k_ hk => (⟨hk, hk.2.2.2⟩ : _ ∧ k_ ≠ gb3022))) (fun _ hk => hk.2) (.slice Ao12 t3005.length co12)) (fun _ hk => ⟨hk.1.1, ⟨hk.1.2.1, ⟨hk.1.2.2.1, hk.1.2.2.2⟩⟩⟩))⟩
       have n6_ : Aside0 ((wc.setCell ⟨gb3022, 1, none⟩ (.slice Ao12 t3005.length co12)).heap[gb3001]? = some (.cells #[.slice Ao10 t3002.length co10, .slice Ao12 t3005.length co12, .slice Ao13 t3008.length co13, .bool t3011] 26 (0, 0))) := ⟨blk_extC BK3001.out⟩
       have n7_ : Aside0 ((wc.setCell ⟨gb3022, 1, none⟩ (.slice Ao12 t3005.length co12)).heap[gb3022]? = some (.cells #[.slice Ao16 t3012.length co16, .slice Ao12 t3005.length co12, .slice Ao20 t3018.length co20, .bool t3021] 26 (0, 0))) := ⟨by (with_reducible repeat (first | refine blk_drewN ?_ _ | refine blk_drew ?_ | refine blk_alloc ?_ _)); refine blk_put (cs := #[.slice Ao16 t3012.length co16, .slice Ao19 t3015.length co19, .slice Ao20 t3018.length co20, .bool t3021]) ?_ 1 _ rfl; exact blk_ext BK3022.out⟩
       have n8_ : Aside0 (Below w.heap.size w (wc.setCell ⟨gb3022, 1, none⟩ (.slice Ao12 t3005.length co12))) := ⟨below_extB HB.out⟩
       (try clear HO_3002000)
       (try clear HO_3002001)
       (try clear HO_3002002)
       (try clear HO_3023000)
       (try clear HO_3023001)
       (try clear HO_3023002)
       (try clear BK3001)
       (try clear BK3022)
       (try clear HB)
       generalize (wc.setCell ⟨gb3022, 1, none⟩ (.slice Ao12 t3005.length co12)) = w57 at n0_ n1_ n2_ n3_ n4_ n5_ n6_ n7_ n8_ ⊢
       have HO_3002000 := n0_
       have HO_3002001 := n1_
       have HO_3002002 := n2_
       have HO_3023000 := n3_
       have HO_3023001 := n4_
       have HO_3023002 := n5_
       have BK3001 := n6_
       have BK3022 := n7_
       have HB := n8_
       clear n0_ n1_ n2_ n3_ n4_ n5_ n6_ n7_ n8_
       (try (rw [drewN_self w57]; generalize hq_ : World.drewN w57 _ = w57; have n0_ := Aside0.mk (Kd.V_at hq_ HO_3002000.out); have n1_ := Aside0.mk (Kd.V_at hq_ HO_3002001.out); have n2_ := Aside0.mk (Kd.V_at hq_ HO_3002002.out); have n3_ := Aside0.mk (Kd.R_at hq_ HO_3023000.out); have n4_ := Aside0.mk (Kd.R_at hq_ HO_3023001.out); have n5_ := Aside0.mk (Kd.N_at hq_ HO_3023002.out); have n6_ := Aside0.mk (blk_at hq_ BK3001.out); have n7_ := Aside0.mk (blk_at hq_ BK3022.out); have n8_ := Aside0.mk (below_at hq_ HB.out); clear hq_ HO_3002000 HO_3002001 HO_3002002 HO_3023000 HO_3023001 HO_3023002 BK3001 BK3022 HB; have HO_3002000 := n0_; have HO_3002001 := n1_; have HO_3002002 := n2_; have HO_3023000 := n3_; have HO_3023001 := n4_; have HO_3023002 := n5_; have BK3001 := n6_; have BK3022 := n7_; have HB := n8_; clear n0_ n1_ n2_ n3_ n4_ n5_ n6_ n7_ n8_))
       have n0_ := Aside0.mk (Kd.V_drew HO_3002000.out)
       have n1_ := Aside0.mk (Kd.V_drew HO_3002001.out)
       have n2_ := Aside0.mk (Kd.V_drew HO_3002002.out)
       have n3_ := Aside0.mk (Kd.R_drew HO_3023000.out)
       have n4_ := Aside0.mk (Kd.R_drew HO_3023001.out)
       have n5_ := Aside0.mk (Kd.N_drew HO_3023002.out)
       have n6_ := Aside0.mk (blk_drew BK3001.out)
       have n7_ := Aside0.mk (blk_drew BK3022.out)
       have n8_ := Aside0.mk (below_drew1 HB.out)
       clear HO_3002000
       clear HO_3002001
       clear HO_3002002
       clear HO_3023000
       clear HO_3023001
       clear HO_3023002
       clear BK3001
       clear BK3022
       clear HB
       have HO_3002000 := n0_
       have HO_3002001 := n1_
       have HO_3002002 := n2_
       have HO_3023000 := n3_
       have HO_3023001 := n4_
       have HO_3023002 := n5_
       have BK3001 := n6_
       have BK3022 := n7_
       have HB := n8_
       clear n0_ n1_ n2_ n3_ n4_ n5_ n6_ n7_ n8_
       refine start_ (n := 9) (S := fun w' => w'.cell? ⟨gb3022, 0, none⟩ = some (.slice Ao16 t3012.length co16) ∧ w'.cell? ⟨gb3022, 1, none⟩ = some (.slice Ao12 t3005.length co12) ∧ w'.cell? ⟨gb3022, 2, none⟩ = some (.slice Ao20 t3018.length co20) ∧ w'.cell? ⟨gb3022, 3, none⟩ = some (.bool t3021)) (ds := []) #[false, false, false, false, false, false, false, false, false] (by kernel_rfl) rfl rfl ⟨(blk_cell BK3022.out 0).trans rfl, (blk_cell BK3022.out 1).trans rfl, (blk_cell BK3022.out 2).trans rfl, (blk_cell BK3022.out 3).trans rfl⟩ (fun hHeld => ?_); refine with_tabW customslaw08_GoodsValidate.tab11 customslaw08_GoodsValidate.bits11 (fun HT_ HW_ => ?_)
       generalize w57.drew = w58 at HO_3002000 HO_3002001 HO_3002002 HO_3023000 HO_3023001 HO_3023002 BK3001 BK3022 HB hHeld ⊢
       refine take_ (i := 0) (N := some 37) (v := ?_) (a' := ?_) #[true, false, false, false, false, false, false, false, false] rfl rfl (take_ofW HT_.out HW_.out (by kernel_rfl)) (fun _ _ _ h => h) (Or.inl ⟨by rfl, ?_⟩) hHeld ?_ ?_
       rotate_left
       ·
        rintro w' ⟨s0, s1, s2, s3⟩
        go_simp
        with_reducible rfl
       rotate_left
       ·
        simp only [Act.put, List.setIfInBounds_toArray, List.set_cons_zero, List.set_cons_succ, i64_w, i32_w]
        rfl
       refine take_ (i := 2) (N := some 39) (v := ?_) (a' := ?_) #[true, false, true, false, false, false, false, false, false] rfl rfl (take_ofW HT_.out HW_.out (by kernel_rfl)) (fun _ _ _ h => h) (Or.inl ⟨by rfl, ?_⟩) hHeld ?_ ?_
       rotate_left
       ·
        rintro w' ⟨s0, s1, s2, s3⟩
        go_simp
        with_reducible rfl
       rotate_left
       ·
        simp only [Act.put, List.setIfInBounds_toArray, List.set_cons_zero, List.set_cons_succ, i64_w, i32_w]
        rfl
       refine one_ (i := 1) (N := some 38) #[true, true, true, false, false, false, false, false, false] rfl rfl (one_of HT_.out (by kernel_rfl)) (by decide) (fun K hK => ?_)
       refine goes_ Tryd.func10 (by kernel_rfl) rfl #[.agg #[.slice Ao16 t3012.length co16, .slice Ao12 t3005.length co12, .slice Ao20 t3018.length co20, .bool t3021]] (by rfl) rfl rfl (by (try simp only [List.map_toArray, List.map_cons, List.map_nil]); first | done | rfl | (simp only [List.length_drop, List.length_take]; rfl)) ?_
       with_reducible refine (goods_Validate.calls kj5 _ _ t3012 _ _ t3005 _ _ t3018 t3021 t3030 _ ?side1 ?side2 ?side3 ?side4 ?side5 ?side6 A50.out).mono ?_
       (case side1 => exact Kd.C_ext (Kd.R_reads' HO_3023000.out).2.2)
       (case side2 => exact (Kd.R_reads' HO_3023000.out).2.1)
       (case side3 => exact Kd.C_ext (Kd.V_reads' HO_3002001.out).2.2)
       (case side4 => exact (Kd.V_reads' HO_3002001.out).2.1)
       (case side5 => exact Kd.C_ext (Kd.N_reads' HO_3023002.out).2.2)
       (case side6 => exact (Kd.N_reads' HO_3023002.out).2.1)
       rintro e w59 ⟨rfl, hb⟩
       refine ⟨_, rfl, ?_⟩
       replace HO_3002000 := mvV HO_3002000 hb
       replace HO_3002001 := mvV HO_3002001 hb
       replace HO_3002002 := mvV HO_3002002 hb
       replace HO_3023000 := mvR HO_3023000 hb
       replace HO_3023001 := mvR HO_3023001 hb
       replace HO_3023002 := mvN HO_3023002 hb
       replace BK3001 := mvB BK3001 hb
       replace BK3022 := mvB BK3022 hb
       replace HB := mvH HB hb
       (try clear hb)
       (try clear hb2)
       (try clear hk)
       (try clear hi)
       refine hK.out _ _ ⟨(blk_cell BK3022.out 0).trans rfl, (blk_cell BK3022.out 1).trans rfl, (blk_cell BK3022.out 2).trans rfl, (blk_cell BK3022.out 3).trans rfl⟩ (fun hHeld => ?_)
       clear hK K
       refine norm_ (a' := ?_) ?_ ?_
       rotate_left
       ·
        show Act.put _ (some 38) _ = _
        simp only [Act.put, List.setIfInBounds_toArray, List.set_cons_zero, List.set_cons_succ, i64_w, i32_w]
        rfl
       refine one_ (i := 3) (N := some 40) #[true, true, true, true, false, false, false, false, false] rfl rfl (one_of HT_.out (by kernel_rfl)) (by decide) (fun K hK => ?_)
       refine goes_ Tryd.func11 (by kernel_rfl) rfl #[.agg #[.slice Ao16 t3012.length co16, .slice Ao12 t3005.length co12, .slice Ao20 t3018.length co20, .bool t3021]] (by rfl) rfl rfl (by (try simp only [List.map_toArray, List.map_cons, List.map_nil]); first | done | rfl | (simp only [List.length_drop, List.length_take]; rfl)) ?_
       with_reducible refine (customsref08_Good.calls kj5 _ _ t3012 _ _ t3005 _ _ t3018 t3021 t3031 _ ?side1 ?side2 ?side3 ?side4 ?side5 ?side6 A51.out).mono ?_
       (case side1 => exact Kd.C_ext (Kd.R_reads' HO_3023000.out).2.2)
       (case side2 => exact (Kd.R_reads' HO_3023000.out).2.1)
       (case side3 => exact Kd.C_ext (Kd.V_reads' HO_3002001.out).2.2)
       (case side4 => exact (Kd.V_reads' HO_3002001.out).2.1)
       (case side5 => exact Kd.C_ext (Kd.N_reads' HO_3023002.out).2.2)
       (case side6 => exact (Kd.N_reads' HO_3023002.out).2.1)
       rintro e w60 ⟨rfl, hb⟩
       refine ⟨_, rfl, ?_⟩
       replace HO_3002000 := mvV HO_3002000 hb
       replace HO_3002001 := mvV HO_3002001 hb
       replace HO_3002002 := mvV HO_3002002 hb
       replace HO_3023000 := mvR HO_3023000 hb
       replace HO_3023001 := mvR HO_3023001 hb
       replace HO_3023002 := mvN HO_3023002 hb
       replace BK3001 := mvB BK3001 hb
       replace BK3022 := mvB BK3022 hb
       replace HB := mvH HB hb
       (try clear hb)
       (try clear hb2)
       (try clear hk)
       (try clear hi)
       refine hK.out _ _ ⟨(blk_cell BK3022.out 0).trans rfl, (blk_cell BK3022.out 1).trans rfl, (blk_cell BK3022.out 2).trans rfl, (blk_cell BK3022.out 3).trans rfl⟩ (fun hHeld => ?_)
       clear hK K
       refine norm_ (a' := ?_) ?_ ?_
       rotate_left
       ·
        show Act.put _ (some 40) _ = _
        simp only [Act.put, List.setIfInBounds_toArray, List.set_cons_zero, List.set_cons_succ, i64_w, i32_w]
        rfl
       refine pure_ (i := 4) (N := some 41) (v := ?_) (a' := ?_) #[true, true, true, true, true, false, false, false, false] rfl rfl (any_of HT_.out (by kernel_rfl)) (fun _ _ _ h => h) (Or.inl ⟨by rfl, ?_⟩) ?_ ?_
       rotate_left
       ·
        intro w'
        go_simp
        with_reducible rfl
       rotate_left
       ·
        simp only [Act.put, List.setIfInBounds_toArray, List.set_cons_zero, List.set_cons_succ, i64_w, i32_w]
        rfl
       refine pure_ (i := 5) (N := some 42) (v := ?_) (a' := ?_) #[true, true, true, true, true, true, false, false, false] rfl rfl (any_of HT_.out (by kernel_rfl)) (fun _ _ _ h => h) (Or.inl ⟨by rfl, ?_⟩) ?_ ?_
       rotate_left
       ·
        intro w'
        go_simp
        with_reducible rfl
       rotate_left
       ·
        simp only [Act.put, List.setIfInBounds_toArray, List.set_cons_zero, List.set_cons_succ, i64_w, i32_w]
        rfl
       refine one_ (i := 6) (N := some 43) #[true, true, true, true, true, true, true, false, false] rfl rfl (one_of HT_.out (by kernel_rfl)) (by decide) (fun K hK => ?_)
       refine goes_ Tryd.func13 (by kernel_rfl) rfl #[] (by rfl) rfl rfl (by (try simp only [List.map_toArray, List.map_cons, List.map_nil]); first | done | rfl | (simp only [List.length_drop, List.length_take]; rfl)) ?_
       with_reducible refine (customslaw08_awake.calls kj5  t3032 _ A53.out ?side1).mono ?_
       (case side1 => exact GL.below HG.out (below_extB HB.out))
       rintro e w61 ⟨rfl, hb⟩
       refine ⟨_, rfl, ?_⟩
       replace HO_3002000 := mvV HO_3002000 hb
       replace HO_3002001 := mvV HO_3002001 hb
       replace HO_3002002 := mvV HO_3002002 hb
       replace HO_3023000 := mvR HO_3023000 hb
       replace HO_3023001 := mvR HO_3023001 hb
       replace HO_3023002 := mvN HO_3023002 hb
       replace BK3001 := mvB BK3001 hb
       replace BK3022 := mvB BK3022 hb
       replace HB := mvH HB hb
       (try clear hb)
       (try clear hb2)
       (try clear hk)
       (try clear hi)
       refine hK.out _ _ ⟨(blk_cell BK3022.out 0).trans rfl, (blk_cell BK3022.out 1).trans rfl, (blk_cell BK3022.out 2).trans rfl, (blk_cell BK3022.out 3).trans rfl⟩ (fun hHeld => ?_)
       clear hK K
       refine norm_ (a' := ?_) ?_ ?_
       rotate_left
       ·
        show Act.put _ (some 43) _ = _
        simp only [Act.put, List.setIfInBounds_toArray, List.set_cons_zero, List.set_cons_succ, i64_w, i32_w]
        rfl
       refine pure_ (i := 7) (N := some 44) (v := ?_) (a' := ?_) #[true, true, true, true, true, true, true, true, false] rfl rfl (any_of HT_.out (by kernel_rfl)) (fun _ _ _ h => h) (Or.inl ⟨by rfl, ?_⟩) ?_ ?_
       rotate_left
       ·
        intro w'
        go_simp
        with_reducible rfl
       rotate_left
       ·
        simp only [Act.put, List.setIfInBounds_toArray, List.set_cons_zero, List.set_cons_succ, i64_w, i32_w]
        rfl
       refine pure_ (i := 8) (N := some 6) (v := ?_) (a' := ?_) #[true, true, true, true, true, true, true, true, true] rfl rfl (any_of HT_.out (by kernel_rfl)) (fun _ _ _ h => h) (Or.inl ⟨by rfl, ?_⟩) ?_ ?_
       rotate_left
       ·
        intro w'
        go_simp
        with_reducible rfl
       rotate_left
       ·
        simp only [Act.put, List.setIfInBounds_toArray, List.set_cons_zero, List.set_cons_succ, i64_w, i32_w]
        rfl
       refine done_ (done_of HT_.out (by kernel_rfl)) ?_
       try go_wp2
       go_ret
       exact ⟨by first | rfl | (simp [errW_none, errW_some] <;> rfl) | (simp [*, errW_none, errW_some] <;> rfl), below_extB HB.out⟩
      ·
       rw [if_neg c52] at H
       have c52b0 : (t3030 == t3031) = false := beq_eq_false_iff_ne.mpr c52
       have c52b1 : (t3030 != t3031) = true := bne_iff_ne.mpr c52
       exact absurd H (by simp)
     ·
      rw [if_neg c49] at H
      have c49b0 : (t3026 == 1) = false := beq_eq_false_iff_ne.mpr c49
      have c49b1 : (t3026 != 1) = true := bne_iff_ne.mpr c49
      replace H := Option.bind_eq_some_iff.mp H
      obtain ⟨t3033, A620, H⟩ := H
      try dsimp only at H
      have A62 := Aside0.mk A620
      clear A620
      replace H := Option.bind_eq_some_iff.mp H
      obtain ⟨t3034, A630, H⟩ := H
      try dsimp only at H
      have A63 := Aside0.mk A630
      clear A630
      by_cases c64 : t3033 = t3034
      ·
       rw [if_pos c64] at H
       have c64b0 : (t3033 == t3034) = true := beq_iff_eq.mpr c64
       have c64b1 : (t3033 != t3034) = false := bne_eq_false_iff_eq.mpr c64
       clear c64
       replace H := Option.bind_eq_some_iff.mp H
       obtain ⟨t3035, A650, H⟩ := H
       try dsimp only at H
       have A65 := Aside0.mk A650
       clear A650
       obtain rfl := Option.some.inj H
       try go_wp2_with (first | ((with_reducible refine gate_callee (f := 12) rfl ?_); refine goesL_ (some 23) rfl rfl Tryd.func12 (by kernel_rfl) rfl #[.int .i64 a2, .int .i64 3] rfl (by (try simp only [List.map_toArray, List.map_cons, List.map_nil]); first | done | rfl | (simp only [List.length_drop, List.length_take]; rfl) | (simp only [i64_w]; done) | (simp (disch := decide) only [Int.tdiv_eq_ediv_of_nonneg]; rfl)) ?_; (with_reducible refine (customsmade_Within.calls a2 3 t3026 _ A35.out).mono ?_); rintro e w' ⟨rfl, ⟨nd, rfl⟩⟩; refine ⟨_, rfl, ?_⟩; (try (rw [drewN_self wc]; generalize hq_ : World.drewN wc _ = wc; have n0_ : Aside0 (Kd.V Kd.string 9 wc w.heap.size (fun k_ => some k_ ≠ (.slice Ao16 t3012.length co16 : Value).ownBlock ∧ some k_ ≠ (.slice Ao19 t3015.length co19 : Value).ownBlock ∧ some k_ ≠ (.slice Ao20 t3018.length co20 : Value).ownBlock ∧ k_ ≠ gb3001 ∧ k_ ≠ gb3022) (.slice Ao10 t3002.length co10) t3002) := ⟨by rw [← hq_]; exact (Kd.V_ext HO_3002000.out)⟩; have n1_ : Aside0 (Kd.V k36 36 wc w.heap.size (fun k_ => some k_ ≠ (.slice Ao16 t3012.length co16 : Value).ownBlock ∧ some k_ ≠ (.slice Ao19 t3015.length co19 : Value).ownBlock ∧ some k_ ≠ (.slice Ao20 t3018.length co20 : Value).ownBlock ∧ k_ ≠ gb3001 ∧ k_ ≠ gb3022) (.slice Ao12 t3005.length co12) t3005) := ⟨by rw [← hq_]; exact (Kd.V_ext HO_3002001.out)⟩; have n2_ : Aside0 (Kd.V k38 38 wc w.heap.size (fun k_ => some k_ ≠ (.slice Ao16 t3012.length co16 : Value).ownBlock ∧ some k_ ≠ (.slice Ao19 t3015.length co19 : Value).ownBlock ∧ some k_ ≠ (.slice Ao20 t3018.length co20 : Value).ownBlock ∧ k_ ≠ gb3001 ∧ k_ ≠ gb3022) (.slice Ao13 t3008.length co13) t3008) := ⟨by rw [← hq_]; exact (Kd.V_ext HO_3002002.out)⟩; have n3_ : Aside0 (Kd.R Kd.string 9 wc w.heap.size (fun _ => True) (.slice Ao16 t3012.length co16) t3012) := ⟨by rw [← hq_]; exact (Kd.R_ext HO_3023000.out)⟩; have n4_ : Aside0 (Kd.R k36 36 wc w.heap.size (fun _ => True) (.slice Ao19 t3015.length co19) t3015) := ⟨by rw [← hq_]; exact (Kd.R_ext HO_3023001.out)⟩; have n5_ : Aside0 (Kd.N k38 38 wc w.heap.size (fun k_ => some k_ ≠ (.slice Ao16 t3012.length co16 : Value).ownBlock ∧ some k_ ≠ (.slice Ao19 t3015.length co19 : Value).ownBlock ∧ k_ ≠ gb3001 ∧ k_ ≠ gb3022) (.slice Ao20 t3018.length co20) t3018) := ⟨by rw [← hq_]; exact (Kd.N_ext HO_3023002.out)⟩; have n6_ : Aside0 (wc.heap[gb3001]? = some (.cells #[.slice Ao10 t3002.length co10, .slice Ao12 t3005.length co12, .slice Ao13 t3008.length co13, .bool t3011] 26 (0, 0))) := ⟨by rw [← hq_]; exact (blk_ext BK3001.out)⟩; have n7_ : Aside0 (wc.heap[gb3022]? = some (.cells #[.slice Ao16 t3012.length co16, .slice Ao19 t3015.length co19, .slice Ao20 t3018.length co20, .bool t3021] 26 (0, 0))) := ⟨by rw [← hq_]; exact (blk_ext BK3022.out)⟩; have n8_ : Aside0 (Below w.heap.size w wc) := ⟨by rw [← hq_]; exact (below_extB HB.out)⟩; clear HO_3002000 HO_3002001 HO_3002002 HO_3023000 HO_3023001 HO_3023002 BK3001 BK3022 HB hq_; have HO_3002000 := n0_; have HO_3002001 := n1_; have HO_3002002 := n2_; have HO_3023000 := n3_; have HO_3023001 := n4_; have HO_3023002 := n5_; have BK3001 := n6_; have BK3022 := n7_; have HB := n8_; clear n0_ n1_ n2_ n3_ n4_ n5_ n6_ n7_ n8_)); have hnb66 := NB3001_3022.out; have hnc66 := NB3022_3001.out; have hcz67_0 : wc.cell? ⟨gb3001, 0, none⟩ = some (.slice Ao10 t3002.length co10) := (blk_cell BK3001.out 0).trans rfl; have hcz67_1 : wc.cell? ⟨gb3001, 1, none⟩ = some (.slice Ao12 t3005.length co12) := (blk_cell BK3001.out 1).trans rfl; have hcz67_2 : wc.cell? ⟨gb3001, 2, none⟩ = some (.slice Ao13 t3008.length co13) := (blk_cell BK3001.out 2).trans rfl; have hcz67_3 : wc.cell? ⟨gb3001, 3, none⟩ = some (.bool t3011) := (blk_cell BK3001.out 3).trans rfl; have hfz67_0 := blk_frozen BK3001.out 0; have hfz67_1 := blk_frozen BK3001.out 1; have hfz67_2 := blk_frozen BK3001.out 2; have hfz67_3 := blk_frozen BK3001.out 3; have hcz68_0 : wc.cell? ⟨gb3022, 0, none⟩ = some (.slice Ao16 t3012.length co16) := (blk_cell BK3022.out 0).trans rfl; have hcz68_1 : wc.cell? ⟨gb3022, 1, none⟩ = some (.slice Ao19 t3015.length co19) := (blk_cell BK3022.out 1).trans rfl; have hcz68_2 : wc.cell? ⟨gb3022, 2, none⟩ = some (.slice Ao20 t3018.length co20) := (blk_cell BK3022.out 2).trans rfl; have hcz68_3 : wc.cell? ⟨gb3022, 3, none⟩ = some (.bool t3021) := (blk_cell BK3022.out 3).trans rfl; have hfz68_0 := blk_frozen BK3022.out 0; have hfz68_1 := blk_frozen BK3022.out 1; have hfz68_2 := blk_frozen BK3022.out 2; have hfz68_3 := blk_frozen BK3022.out 3))
       (try simp only [setCell_drewN])
       have n0_ : Aside0 (Kd.V Kd.string 9 (wc.setCell ⟨gb3022, 2, none⟩ (.slice Ao13 t3008.length co13)) w.heap.size (fun k_ => some k_ ≠ (.slice Ao16 t3012.length co16 : Value).ownBlock ∧ some k_ ≠ (.slice Ao19 t3015.length co19 : Value).ownBlock ∧ some k_ ≠ (.slice Ao20 t3018.length co20 : Value).ownBlock ∧ k_ ≠ gb3001 ∧ k_ ≠ gb3022) (.slice Ao10 t3002.length co10) t3002) := ⟨Kd.V_ext (Kd.V_mono (Kd.V_far (p := ⟨gb3022, 2, none⟩) (Kd.V_mono HO_3002000.out (fun k_ hk => (⟨hk, hk.2.2.2.2⟩ : _ ∧ k_ ≠ gb3022))) (fun _ hk => hk.2) (.slice Ao13 t3008.length co13)) (fun _ hk => ⟨hk.1.1, ⟨hk.1.2.1, ⟨hk.1.2.2.1, ⟨hk.1.2.2.2.1, hk.1.2.2.2.2⟩⟩⟩⟩))⟩
       have n1_ : Aside0 (Kd.V k36 36 (wc.setCell ⟨gb3022, 2, none⟩ (.slice Ao13 t3008.length co13)) w.heap.size (fun k_ => some k_ ≠ (.slice Ao16 t3012.length co16 : Value).ownBlock ∧ some k_ ≠ (.slice Ao19 t3015.length co19 : Value).ownBlock ∧ some k_ ≠ (.slice Ao20 t3018.length co20 : Value).ownBlock ∧ k_ ≠ gb3001 ∧ k_ ≠ gb3022) (.slice Ao12 t3005.length co12) t3005) := ⟨Kd.V_ext (Kd.V_mono (Kd.V_far (p := ⟨gb3022, 2, none⟩) (Kd.V_mono HO_3002001.out (fun k_ hk => (⟨hk, hk.2.2.2.2⟩ : _ ∧ k_ ≠ gb3022))) (fun _ hk => hk.2) (.slice Ao13 t3008.length co13)) (fun _ hk => ⟨hk.1.1, ⟨hk.1.2.1, ⟨hk.1.2.2.1, ⟨hk.1.2.2.2.1, hk.1.2.2.2.2⟩⟩⟩⟩))⟩
       have n2_ : Aside0 (Kd.V k38 38 (wc.setCell ⟨gb3022, 2, none⟩ (.slice Ao13 t3008.length co13)) w.heap.size (fun k_ => some k_ ≠ (.slice Ao16 t3012.length co16 : Value).ownBlock ∧ some k_ ≠ (.slice Ao19 t3015.length co19 : Value).ownBlock ∧ some k_ ≠ (.slice Ao20 t3018.length co20 : Value).ownBlock ∧ k_ ≠ gb3001 ∧ k_ ≠ gb3022) (.slice Ao13 t3008.length co13) t3008) := ⟨Kd.V_ext (Kd.V_mono (Kd.V_far (p := ⟨gb3022, 2, none⟩) (Kd.V_mono HO_3002002.out (fun k_ hk => (⟨hk, hk.2.2.2.2⟩ : _ ∧ k_ ≠ gb3022))) (fun _ hk => hk.2) (.slice Ao13 t3008.length co13)) (fun _ hk => ⟨hk.1.1, ⟨hk.1.2.1, ⟨hk.1.2.2.1, ⟨hk.1.2.2.2.1, hk.1.2.2.2.2⟩⟩⟩⟩))⟩
       have n3_ : Aside0 (Kd.R Kd.string 9 (wc.setCell ⟨gb3022, 2, none⟩ (.slice Ao13 t3008.length co13)) w.heap.size (fun _ => True) (.slice Ao16 t3012.length co16) t3012) := ⟨Kd.R_ext (Kd.R_mono (Kd.R_far (p := ⟨gb3022, 2, none⟩) (Kd.R_types HO_3023000.out BK3022.out (by decide)) (fun _ hk => hk.2) (.slice Ao13 t3008.length co13)) (fun _ hk => trivial))⟩
       have n4_ : Aside0 (Kd.R k36 36 (wc.setCell ⟨gb3022, 2, none⟩ (.slice Ao13 t3008.length co13)) w.heap.size (fun _ => True) (.slice Ao19 t3015.length co19) t3015) := ⟨Kd.R_ext (Kd.R_mono (Kd.R_far (p := ⟨gb3022, 2, none⟩) (Kd.R_types HO_3023001.out BK3022.out (by decide)) (fun _ hk => hk.2) (.slice Ao13 t3008.length co13)) (fun _ hk => trivial))⟩
       have n5_ : Aside0 (Kd.N k38 38 (wc.setCell ⟨gb3022, 2, none⟩ (.slice Ao13 t3008.length co13)) w.heap.size (fun k_ => some k_ ≠ (.slice Ao16 t3012.length co16 : Value).ownBlock ∧ some k_ ≠ (.slice Ao19 t3015.length co19 : Value).ownBlock ∧ k_ ≠ gb3001 ∧ k_ ≠ gb3022) (.slice Ao20 t3018.length co20) t3018) := ⟨Kd.N_ext (Kd.N_mono (Kd.N_far (p := ⟨gb3022, 2, none⟩) (Kd.N_mono HO_3023002.out (fun k_ hk => (⟨hk, hk.2.2.2⟩ : _ ∧ k_ ≠ gb3022))) (fun _ hk => hk.2) (.slice Ao13 t3008.length co13)) (fun _ hk => ⟨hk.1.1, ⟨hk.1.2.1, ⟨hk.1.2.2.1, hk.1.2.2.2⟩⟩⟩))⟩
       have n6_ : Aside0 ((wc.setCell ⟨gb3022, 2, none⟩ (.slice Ao13 t3008.length co13)).heap[gb3001]? = some (.cells #[.slice Ao10 t3002.length co10, .slice Ao12 t3005.length co12, .slice Ao13 t3008.length co13, .bool t3011] 26 (0, 0))) := ⟨blk_extC BK3001.out⟩
       have n7_ : Aside0 ((wc.setCell ⟨gb3022, 2, none⟩ (.slice Ao13 t3008.length co13)).heap[gb3022]? = some (.cells #[.slice Ao16 t3012.length co16, .slice Ao19 t3015.length co19, .slice Ao13 t3008.length co13, .bool t3021] 26 (0, 0))) := ⟨by (with_reducible repeat (first | refine blk_drewN ?_ _ | refine blk_drew ?_ | refine blk_alloc ?_ _)); refine blk_put (cs := #[.slice Ao16 t3012.length co16, .slice Ao19 t3015.length co19, .slice Ao20 t3018.length co20, .bool t3021]) ?_ 2 _ rfl; exact blk_ext BK3022.out⟩
       have n8_ : Aside0 (Below w.heap.size w (wc.setCell ⟨gb3022, 2, none⟩ (.slice Ao13 t3008.length co13))) := ⟨below_extB HB.out⟩
       (try clear HO_3002000)
       (try clear HO_3002001)
       (try clear HO_3002002)
       (try clear HO_3023000)
       (try clear HO_3023001)
       (try clear HO_3023002)
       (try clear BK3001)
       (try clear BK3022)
       (try clear HB)
       generalize (wc.setCell ⟨gb3022, 2, none⟩ (.slice Ao13 t3008.length co13)) = w69 at n0_ n1_ n2_ n3_ n4_ n5_ n6_ n7_ n8_ ⊢
       have HO_3002000 := n0_
       have HO_3002001 := n1_
       have HO_3002002 := n2_
       have HO_3023000 := n3_
       have HO_3023001 := n4_
       have HO_3023002 := n5_
       have BK3001 := n6_
       have BK3022 := n7_
       have HB := n8_
       clear n0_ n1_ n2_ n3_ n4_ n5_ n6_ n7_ n8_
       (try (rw [drewN_self w69]; generalize hq_ : World.drewN w69 _ = w69; have n0_ := Aside0.mk (Kd.V_at hq_ HO_3002000.out); have n1_ := Aside0.mk (Kd.V_at hq_ HO_3002001.out); have n2_ := Aside0.mk (Kd.V_at hq_ HO_3002002.out); have n3_ := Aside0.mk (Kd.R_at hq_ HO_3023000.out); have n4_ := Aside0.mk (Kd.R_at hq_ HO_3023001.out); have n5_ := Aside0.mk (Kd.N_at hq_ HO_3023002.out); have n6_ := Aside0.mk (blk_at hq_ BK3001.out); have n7_ := Aside0.mk (blk_at hq_ BK3022.out); have n8_ := Aside0.mk (below_at hq_ HB.out); clear hq_ HO_3002000 HO_3002001 HO_3002002 HO_3023000 HO_3023001 HO_3023002 BK3001 BK3022 HB; have HO_3002000 := n0_; have HO_3002001 := n1_; have HO_3002002 := n2_; have HO_3023000 := n3_; have HO_3023001 := n4_; have HO_3023002 := n5_; have BK3001 := n6_; have BK3022 := n7_; have HB := n8_; clear n0_ n1_ n2_ n3_ n4_ n5_ n6_ n7_ n8_))
       have n0_ := Aside0.mk (Kd.V_drew HO_3002000.out)
       have n1_ := Aside0.mk (Kd.V_drew HO_3002001.out)
       have n2_ := Aside0.mk (Kd.V_drew HO_3002002.out)
       have n3_ := Aside0.mk (Kd.R_drew HO_3023000.out)
       have n4_ := Aside0.mk (Kd.R_drew HO_3023001.out)
       have n5_ := Aside0.mk (Kd.N_drew HO_3023002.out)
       have n6_ := Aside0.mk (blk_drew BK3001.out)
       have n7_ := Aside0.mk (blk_drew BK3022.out)
       have n8_ := Aside0.mk (below_drew1 HB.out)
       clear HO_3002000
       clear HO_3002001
       clear HO_3002002
       clear HO_3023000
       clear HO_3023001
       clear HO_3023002
       clear BK3001
       clear BK3022
       clear HB
       have HO_3002000 := n0_
       have HO_3002001 := n1_
       have HO_3002002 := n2_
       have HO_3023000 := n3_
       have HO_3023001 := n4_
       have HO_3023002 := n5_
       have BK3001 := n6_
       have BK3022 := n7_
       have HB := n8_
       clear n0_ n1_ n2_ n3_ n4_ n5_ n6_ n7_ n8_
       refine start_ (n := 9) (S := fun w' => w'.cell? ⟨gb3022, 0, none⟩ = some (.slice Ao16 t3012.length co16) ∧ w'.cell? ⟨gb3022, 1, none⟩ = some (.slice Ao19 t3015.length co19) ∧ w'.cell? ⟨gb3022, 2, none⟩ = some (.slice Ao13 t3008.length co13) ∧ w'.cell? ⟨gb3022, 3, none⟩ = some (.bool t3021)) (ds := []) #[false, false, false, false, false, false, false, false, false] (by kernel_rfl) rfl rfl ⟨(blk_cell BK3022.out 0).trans rfl, (blk_cell BK3022.out 1).trans rfl, (blk_cell BK3022.out 2).trans rfl, (blk_cell BK3022.out 3).trans rfl⟩ (fun hHeld => ?_); refine with_tabW customslaw08_GoodsValidate.tab11 customslaw08_GoodsValidate.bits11 (fun HT_ HW_ => ?_)
       generalize w69.drew = w70 at HO_3002000 HO_3002001 HO_3002002 HO_3023000 HO_3023001 HO_3023002 BK3001 BK3022 HB hHeld ⊢
       refine take_ (i := 0) (N := some 37) (v := ?_) (a' := ?_) #[true, false, false, false, false, false, false, false, false] rfl rfl (take_ofW HT_.out HW_.out (by kernel_rfl)) (fun _ _ _ h => h) (Or.inl ⟨by rfl, ?_⟩) hHeld ?_ ?_
       rotate_left
       ·
        rintro w' ⟨s0, s1, s2, s3⟩
        go_simp
        with_reducible rfl
       rotate_left
       ·
        simp only [Act.put, List.setIfInBounds_toArray, List.set_cons_zero, List.set_cons_succ, i64_w, i32_w]
        rfl
       refine take_ (i := 2) (N := some 39) (v := ?_) (a' := ?_) #[true, false, true, false, false, false, false, false, false] rfl rfl (take_ofW HT_.out HW_.out (by kernel_rfl)) (fun _ _ _ h => h) (Or.inl ⟨by rfl, ?_⟩) hHeld ?_ ?_
       rotate_left
       ·
        rintro w' ⟨s0, s1, s2, s3⟩
        go_simp
        with_reducible rfl
       rotate_left
       ·
        simp only [Act.put, List.setIfInBounds_toArray, List.set_cons_zero, List.set_cons_succ, i64_w, i32_w]
        rfl
       refine one_ (i := 1) (N := some 38) #[true, true, true, false, false, false, false, false, false] rfl rfl (one_of HT_.out (by kernel_rfl)) (by decide) (fun K hK => ?_)
       refine goes_ Tryd.func10 (by kernel_rfl) rfl #[.agg #[.slice Ao16 t3012.length co16, .slice Ao19 t3015.length co19, .slice Ao13 t3008.length co13, .bool t3021]] (by rfl) rfl rfl (by (try simp only [List.map_toArray, List.map_cons, List.map_nil]); first | done | rfl | (simp only [List.length_drop, List.length_take]; rfl)) ?_
       with_reducible refine (goods_Validate.calls kj5 _ _ t3012 _ _ t3015 _ _ t3008 t3021 t3033 _ ?side1 ?side2 ?side3 ?side4 ?side5 ?side6 A62.out).mono ?_
       (case side1 => exact Kd.C_ext (Kd.R_reads' HO_3023000.out).2.2)
       (case side2 => exact (Kd.R_reads' HO_3023000.out).2.1)
       (case side3 => exact Kd.C_ext (Kd.R_reads' HO_3023001.out).2.2)
       (case side4 => exact (Kd.R_reads' HO_3023001.out).2.1)
       (case side5 => exact Kd.C_ext (Kd.V_reads' HO_3002002.out).2.2)
       (case side6 => exact (Kd.V_reads' HO_3002002.out).2.1)
       rintro e w71 ⟨rfl, hb⟩
       refine ⟨_, rfl, ?_⟩
       replace HO_3002000 := mvV HO_3002000 hb
       replace HO_3002001 := mvV HO_3002001 hb
       replace HO_3002002 := mvV HO_3002002 hb
       replace HO_3023000 := mvR HO_3023000 hb
       replace HO_3023001 := mvR HO_3023001 hb
       replace HO_3023002 := mvN HO_3023002 hb
       replace BK3001 := mvB BK3001 hb
       replace BK3022 := mvB BK3022 hb
       replace HB := mvH HB hb
       (try clear hb)
       (try clear hb2)
       (try clear hk)
       (try clear hi)
       refine hK.out _ _ ⟨(blk_cell BK3022.out 0).trans rfl, (blk_cell BK3022.out 1).trans rfl, (blk_cell BK3022.out 2).trans rfl, (blk_cell BK3022.out 3).trans rfl⟩ (fun hHeld => ?_)
       clear hK K
       refine norm_ (a' := ?_) ?_ ?_
       rotate_left
       ·
        show Act.put _ (some 38) _ = _
        simp only [Act.put, List.setIfInBounds_toArray, List.set_cons_zero, List.set_cons_succ, i64_w, i32_w]
        rfl
       refine one_ (i := 3) (N := some 40) #[true, true, true, true, false, false, false, false, false] rfl rfl (one_of HT_.out (by kernel_rfl)) (by decide) (fun K hK => ?_)
       refine goes_ Tryd.func11 (by kernel_rfl) rfl #[.agg #[.slice Ao16 t3012.length co16, .slice Ao19 t3015.length co19, .slice Ao13 t3008.length co13, .bool t3021]] (by rfl) rfl rfl (by (try simp only [List.map_toArray, List.map_cons, List.map_nil]); first | done | rfl | (simp only [List.length_drop, List.length_take]; rfl)) ?_
       with_reducible refine (customsref08_Good.calls kj5 _ _ t3012 _ _ t3015 _ _ t3008 t3021 t3034 _ ?side1 ?side2 ?side3 ?side4 ?side5 ?side6 A63.out).mono ?_
       (case side1 => exact Kd.C_ext (Kd.R_reads' HO_3023000.out).2.2)
       (case side2 => exact (Kd.R_reads' HO_3023000.out).2.1)
       (case side3 => exact Kd.C_ext (Kd.R_reads' HO_3023001.out).2.2)
       (case side4 => exact (Kd.R_reads' HO_3023001.out).2.1)
       (case side5 => exact Kd.C_ext (Kd.V_reads' HO_3002002.out).2.2)
       (case side6 => exact (Kd.V_reads' HO_3002002.out).2.1)
       rintro e w72 ⟨rfl, hb⟩
       refine ⟨_, rfl, ?_⟩
       replace HO_3002000 := mvV HO_3002000 hb
       replace HO_3002001 := mvV HO_3002001 hb
       replace HO_3002002 := mvV HO_3002002 hb
       replace HO_3023000 := mvR HO_3023000 hb
       replace HO_3023001 := mvR HO_3023001 hb
       replace HO_3023002 := mvN HO_3023002 hb
       replace BK3001 := mvB BK3001 hb
       replace BK3022 := mvB BK3022 hb
       replace HB := mvH HB hb
       (try clear hb)
       (try clear hb2)
       (try clear hk)
       (try clear hi)
       refine hK.out _ _ ⟨(blk_cell BK3022.out 0).trans rfl, (blk_cell BK3022.out 1).trans rfl, (blk_cell BK3022.out 2).trans rfl, (blk_cell BK3022.out 3).trans rfl⟩ (fun hHeld => ?_)
       clear hK K
       refine norm_ (a' := ?_) ?_ ?_
       rotate_left
       ·
        show Act.put _ (some 40) _ = _
        simp only [Act.put, List.setIfInBounds_toArray, List.set_cons_zero, List.set_cons_succ, i64_w, i32_w]
        rfl
       refine pure_ (i := 4) (N := some 41) (v := ?_) (a' := ?_) #[true, true, true, true, true, false, false, false, false] rfl rfl (any_of HT_.out (by kernel_rfl)) (fun _ _ _ h => h) (Or.inl ⟨by rfl, ?_⟩) ?_ ?_
       rotate_left
       ·
        intro w'
        go_simp
        with_reducible rfl
       rotate_left
       ·
        simp only [Act.put, List.setIfInBounds_toArray, List.set_cons_zero, List.set_cons_succ, i64_w, i32_w]
        rfl
       refine pure_ (i := 5) (N := some 42) (v := ?_) (a' := ?_) #[true, true, true, true, true, true, false, false, false] rfl rfl (any_of HT_.out (by kernel_rfl)) (fun _ _ _ h => h) (Or.inl ⟨by rfl, ?_⟩) ?_ ?_
       rotate_left
       ·
        intro w'
        go_simp
        with_reducible rfl
       rotate_left
       ·
        simp only [Act.put, List.setIfInBounds_toArray, List.set_cons_zero, List.set_cons_succ, i64_w, i32_w]
        rfl
       refine one_ (i := 6) (N := some 43) #[true, true, true, true, true, true, true, false, false] rfl rfl (one_of HT_.out (by kernel_rfl)) (by decide) (fun K hK => ?_)
       refine goes_ Tryd.func13 (by kernel_rfl) rfl #[] (by rfl) rfl rfl (by (try simp only [List.map_toArray, List.map_cons, List.map_nil]); first | done | rfl | (simp only [List.length_drop, List.length_take]; rfl)) ?_
       with_reducible refine (customslaw08_awake.calls kj5  t3035 _ A65.out ?side1).mono ?_
       (case side1 => exact GL.below HG.out (below_extB HB.out))
       rintro e w73 ⟨rfl, hb⟩
       refine ⟨_, rfl, ?_⟩
       replace HO_3002000 := mvV HO_3002000 hb
       replace HO_3002001 := mvV HO_3002001 hb
       replace HO_3002002 := mvV HO_3002002 hb
       replace HO_3023000 := mvR HO_3023000 hb
       replace HO_3023001 := mvR HO_3023001 hb
       replace HO_3023002 := mvN HO_3023002 hb
       replace BK3001 := mvB BK3001 hb
       replace BK3022 := mvB BK3022 hb
       replace HB := mvH HB hb
       (try clear hb)
       (try clear hb2)
       (try clear hk)
       (try clear hi)
       refine hK.out _ _ ⟨(blk_cell BK3022.out 0).trans rfl, (blk_cell BK3022.out 1).trans rfl, (blk_cell BK3022.out 2).trans rfl, (blk_cell BK3022.out 3).trans rfl⟩ (fun hHeld => ?_)
       clear hK K
       refine norm_ (a' := ?_) ?_ ?_
       rotate_left
       ·
        show Act.put _ (some 43) _ = _
        simp only [Act.put, List.setIfInBounds_toArray, List.set_cons_zero, List.set_cons_succ, i64_w, i32_w]
        rfl
       refine pure_ (i := 7) (N := some 44) (v := ?_) (a' := ?_) #[true, true, true, true, true, true, true, true, false] rfl rfl (any_of HT_.out (by kernel_rfl)) (fun _ _ _ h => h) (Or.inl ⟨by rfl, ?_⟩) ?_ ?_
       rotate_left
       ·
        intro w'
        go_simp
        with_reducible rfl
       rotate_left
       ·
        simp only [Act.put, List.setIfInBounds_toArray, List.set_cons_zero, List.set_cons_succ, i64_w, i32_w]
        rfl
       refine pure_ (i := 8) (N := some 6) (v := ?_) (a' := ?_) #[true, true, true, true, true, true, true, true, true] rfl rfl (any_of HT_.out (by kernel_rfl)) (fun _ _ _ h => h) (Or.inl ⟨by rfl, ?_⟩) ?_ ?_
       rotate_left
       ·
        intro w'
        go_simp
        with_reducible rfl
       rotate_left
       ·
        simp only [Act.put, List.setIfInBounds_toArray, List.set_cons_zero, List.set_cons_succ, i64_w, i32_w]
        rfl
       refine done_ (done_of HT_.out (by kernel_rfl)) ?_
       try go_wp2
       go_ret
       exact ⟨by first | rfl | (simp [errW_none, errW_some] <;> rfl) | (simp [*, errW_none, errW_some] <;> rfl), below_extB HB.out⟩
      ·
       rw [if_neg c64] at H
       have c64b0 : (t3033 == t3034) = false := beq_eq_false_iff_ne.mpr c64
       have c64b1 : (t3033 != t3034) = true := bne_iff_ne.mpr c64
       exact absurd H (by simp)

end Go.Proofs.YtoolggpfgadjlaaDoor.Z
