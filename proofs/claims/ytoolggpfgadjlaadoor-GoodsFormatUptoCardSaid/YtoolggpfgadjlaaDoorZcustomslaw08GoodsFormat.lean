/- Printed: a Go function in plain Lean, and that its call does what it says. Conditions: those each theorem states. -/
import Derived.Test.YtoolggpfgadjlaaDoorZ0
import Derived.Test.YtoolggpfgadjlaaDoorZcustomslaw08small
import Derived.Test.YtoolggpfgadjlaaDoorZcustomsmadeGood
import Derived.Test.YtoolggpfgadjlaaDoorZgoodsFormat
import Derived.Test.YtoolggpfgadjlaaDoorZgoodsParse
import Derived.Test.YtoolggpfgadjlaaDoorZcustomslaw08awake
import Derived.Test.YtoolggpfgadjlaaDoorZcustomsref08FormatGood
import Derived.Test.YtoolggpfgadjlaaDoorZcustomsref08SameGood
namespace Go.Proofs.YtoolggpfgadjlaaDoor.Z
open Go.RowKit Go.Proofs.YtoolggpfgadjlaaDoorW.PrintWords Go.Proofs.YtoolggpfgadjlaaDoorW.PrintLast Go.Proofs.YtoolggpfgadjlaaDoorW.PrintMore
attribute [local go_sem high] str_leq str_geq str_gtr   -- strings
attribute [local go_sem] max2_int min2_int max_two min_two max_three min_three max_four min_four   -- for this text's walks alone
set_option linter.unusedVariables false
set_option linter.unusedSimpArgs false

/-! ### customslaw08_GoodsFormat: function 5 -/
def customslaw08_GoodsFormat.j0 : Nat → ByteArray → Bool → List ByteArray → List (S36) → List (S38) → Bool → Option (Bool)
 | 0, _, _, _, _, _, _ => none
 | k + 1, x6, x25, x5013000, x5013001, x5013002, x5013003 => if x25 = true then (none) else ((goods_Parse.f k x6).bind fun bt5037 => (if bt5037.2.2.2.2 = 0 then ((customsref08_SameGood.f k bt5037.1 bt5037.2.1 bt5037.2.2.1 bt5037.2.2.2.1 x5013000 x5013001 x5013002 x5013003).bind fun t5049 => (if t5049 = true then ((customslaw08_awake.f k).bind fun t5050 => (some t5050)) else (none))) else (none)))
def customslaw08_GoodsFormat.f (k : Nat) (l0 : List Int) (l1_0 : List ByteArray) (l1_1 : List (S36)) (l1_2 : List (S38)) (a1_3 : Bool) : Option (Bool) := (customsmade_Good.f k l0).bind fun bt5002 => ((goods_Format.f k bt5002.1 bt5002.2.1 bt5002.2.2.1 bt5002.2.2.2).bind fun t5013 => ((customsref08_FormatGood.f k bt5002.1 bt5002.2.1 bt5002.2.2.1 bt5002.2.2.2).bind fun t5014 => (if t5013.toList = t5014.toList then ((customslaw08_small.f l1_0 l1_1 l1_2 a1_3).bind fun bt5015 => ((goods_Format.f k bt5015.1 bt5015.2.1 bt5015.2.2.1 bt5015.2.2.2).bind fun t5025 => ((customslaw08_small.f l1_0 l1_1 l1_2 a1_3).bind fun bt5026 => ((customsref08_FormatGood.f k bt5026.1 bt5026.2.1 bt5026.2.2.1 bt5026.2.2.2).bind fun t5036 => (customslaw08_GoodsFormat.j0 k t5013 (t5025.toList != t5036.toList) bt5002.1 bt5002.2.1 bt5002.2.2.1 bt5002.2.2.2))))) else (customslaw08_GoodsFormat.j0 k t5013 true bt5002.1 bt5002.2.1 bt5002.2.2.1 bt5002.2.2.2))))
theorem customslaw08_GoodsFormat.mono_l : ∀ k, (∀ y0 y1 y2 y3 y4 y5, LeO (customslaw08_GoodsFormat.j0 k y0 y1 y2 y3 y4 y5) (customslaw08_GoodsFormat.j0 (k + 1) y0 y1 y2 y3 y4 y5))
 | 0 => fun _ _ _ _ _ _ r h => by simp [customslaw08_GoodsFormat.j0] at h
 | k + 1 => by
  have ih0 := customslaw08_GoodsFormat.mono_l k
  ·
   intro y0 y1 y2 y3 y4 y5
   unfold customslaw08_GoodsFormat.j0
   repeat' first
   | (with_reducible exact ih0 _ _ _ _ _ _)
   | (with_reducible exact customslaw08_awake.mono _)
   | (with_reducible exact customsmade_Good.mono _ _)
   | (with_reducible exact customsref08_FormatGood.mono _ _ _ _ _)
   | (with_reducible exact customsref08_SameGood.mono _ _ _ _ _ _ _ _ _)
   | (with_reducible exact goods_Format.mono _ _ _ _ _)
   | (with_reducible exact goods_Parse.mono _ _)
   | (with_reducible exact LeO.refl _)
   | (with_reducible exact LeO.none _)
   | (with_reducible refine LeO.ite ?_ ?_)
   | (with_reducible refine LeO.bind ?_ (fun _ => ?_))
   | exact ih0 _ _ _ _ _ _
   | exact customslaw08_awake.mono _
   | exact customsmade_Good.mono _ _
   | exact customsref08_FormatGood.mono _ _ _ _ _
   | exact customsref08_SameGood.mono _ _ _ _ _ _ _ _ _
   | exact goods_Format.mono _ _ _ _ _
   | exact goods_Parse.mono _ _
   | exact LeO.none _
   | refine LeO.ite ?_ ?_
   | refine LeO.bind ?_ (fun _ => ?_)
theorem customslaw08_GoodsFormat.mono : ∀ a0 a1 a2 a3 a4 k, LeO (customslaw08_GoodsFormat.f k a0 a1 a2 a3 a4) (customslaw08_GoodsFormat.f (k + 1) a0 a1 a2 a3 a4) := by
 intro a0 a1 a2 a3 a4 k
 have ih0 := customslaw08_GoodsFormat.mono_l k
 unfold customslaw08_GoodsFormat.f
 repeat' first
   | (with_reducible exact ih0 _ _ _ _ _ _)
   | (with_reducible exact customslaw08_awake.mono _)
   | (with_reducible exact customsmade_Good.mono _ _)
   | (with_reducible exact customsref08_FormatGood.mono _ _ _ _ _)
   | (with_reducible exact customsref08_SameGood.mono _ _ _ _ _ _ _ _ _)
   | (with_reducible exact goods_Format.mono _ _ _ _ _)
   | (with_reducible exact goods_Parse.mono _ _)
   | (with_reducible exact LeO.refl _)
   | (with_reducible exact LeO.none _)
   | (with_reducible refine LeO.ite ?_ ?_)
   | (with_reducible refine LeO.bind ?_ (fun _ => ?_))
   | exact ih0 _ _ _ _ _ _
   | exact customslaw08_awake.mono _
   | exact customsmade_Good.mono _ _
   | exact customsref08_FormatGood.mono _ _ _ _ _
   | exact customsref08_SameGood.mono _ _ _ _ _ _ _ _ _
   | exact goods_Format.mono _ _ _ _ _
   | exact goods_Parse.mono _ _
   | exact LeO.none _
   | refine LeO.ite ?_ ?_
   | refine LeO.bind ?_ (fun _ => ?_)
def customslaw08_GoodsFormat.T3 : Bool × List (List Nat × List Nat) := (true, [([], []), ([], []), ([1], [1]), ([0, 2], [0, 2]), ([3, 2], [3]), ([4], [4]), ([5, 4, 4], [4, 5]), ([6, 6, 4], [4, 6]), ([4], [4]), ([8, 7, 4], [4, 8]), ([9, 9, 4], [4, 9]), ([7, 10, 4], [4, 7, 10]), ([4, 11], [4, 11])])
def customslaw08_GoodsFormat.B3 : List Nat := [0, 0, 2, 7, 15, 31, 63, 127, 31, 511, 1023, 2047, 4095]
theorem customslaw08_GoodsFormat.tab3 : rtab .any (opsOf Tryd.f5 3) = customslaw08_GoodsFormat.T3 := by kernel_rfl
theorem customslaw08_GoodsFormat.bits3 : waitsOk customslaw08_GoodsFormat.T3.2 customslaw08_GoodsFormat.B3 = true := by kernel_rfl
set_option maxHeartbeats 8000000 in
set_option maxRecDepth 100000 in
theorem customslaw08_GoodsFormat.calls (k : Nat) (A0 : Option Addr) (c0 : Nat) (l0 : List Int) (A1_0 : Option Addr) (c1_0 : Nat) (l1_0 : List ByteArray) (A1_1 : Option Addr) (c1_1 : Nat) (l1_1 : List (S36)) (A1_2 : Option Addr) (c1_2 : Nat) (l1_2 : List (S38)) (a1_3 : Bool) (r : Bool) (w : World) (hr0 : Kd.C (Kd.int .i64) w A0 l0.length l0) (hc0 : l0.length ≤ c0) (hr1_0 : Kd.C Kd.string w A1_0 l1_0.length l1_0) (hc1_0 : l1_0.length ≤ c1_0) (hr1_1 : Kd.C k36 w A1_1 l1_1.length l1_1) (hc1_1 : l1_1.length ≤ c1_1) (hr1_2 : Kd.C k38 w A1_2 l1_2.length l1_2) (hc1_2 : l1_2.length ≤ c1_2) (h : customslaw08_GoodsFormat.f k l0 l1_0 l1_1 l1_2 a1_3 = some r) (hG : GL w) :
  Calls Tryd.prog 5 #[.slice A0 l0.length c0, .agg #[.slice A1_0 l1_0.length c1_0, .slice A1_1 l1_1.length c1_1, .slice A1_2 l1_2.length c1_2, .bool a1_3]] w fun e w' => e = .returned (.bool r) ∧ Below w.heap.size w w' := by
 have hu26 := Tryd.underlying26
 have HR0 := Aside0.mk hr0
 have HC0 := Aside0.mk hc0
 clear hr0 hc0
 have HR1_0 := Aside0.mk hr1_0
 have HC1_0 := Aside0.mk hc1_0
 clear hr1_0 hc1_0
 have HR1_1 := Aside0.mk hr1_1
 have HC1_1 := Aside0.mk hc1_1
 clear hr1_1 hc1_1
 have HR1_2 := Aside0.mk hr1_2
 have HC1_2 := Aside0.mk hc1_2
 clear hr1_2 hc1_2
 have HB := Aside0.mk (Below.refl w.heap.size w)
 have H : ((customsmade_Good.f k l0).bind fun bt5002 => ((goods_Format.f k bt5002.1 bt5002.2.1 bt5002.2.2.1 bt5002.2.2.2).bind fun t5013 => ((customsref08_FormatGood.f k bt5002.1 bt5002.2.1 bt5002.2.2.1 bt5002.2.2.2).bind fun t5014 => (if t5013.toList = t5014.toList then ((customslaw08_small.f l1_0 l1_1 l1_2 a1_3).bind fun bt5015 => ((goods_Format.f k bt5015.1 bt5015.2.1 bt5015.2.2.1 bt5015.2.2.2).bind fun t5025 => ((customslaw08_small.f l1_0 l1_1 l1_2 a1_3).bind fun bt5026 => ((customsref08_FormatGood.f k bt5026.1 bt5026.2.1 bt5026.2.2.1 bt5026.2.2.2).bind fun t5036 => (customslaw08_GoodsFormat.j0 k t5013 (t5025.toList != t5036.toList) bt5002.1 bt5002.2.1 bt5002.2.2.1 bt5002.2.2.2))))) else (customslaw08_GoodsFormat.j0 k t5013 true bt5002.1 bt5002.2.1 bt5002.2.2.1 bt5002.2.2.2))))) = some r := h
 clear h
 have HG := Aside0.mk hG
 clear hG
 replace H := Option.bind_eq_some_iff.mp H
 obtain ⟨⟨t5002, t5005, t5008, t5011⟩, A30, H⟩ := H
 try dsimp only at H
 have A3 := Aside0.mk A30
 clear A30
 replace H := Option.bind_eq_some_iff.mp H
 obtain ⟨t5013, A40, H⟩ := H
 try dsimp only at H
 have A4 := Aside0.mk A40
 clear A40
 have HC5 := Aside0.mk H
 clear H
 go_enter Tryd.func5, Tryd.ntmps5
 go_upto_region 3 with (first | ((with_reducible refine gate_dst (N := 3) rfl ?_); refine box_event ?hg (N := 3) ?hd (cs := #[.slice A1_0 l1_0.length c1_0, .slice A1_1 l1_1.length c1_1, .slice A1_2 l1_2.length c1_2, .bool a1_3]) (t := 26) ?hr ?_; (case hd => rfl); (case hg => rfl); (case hr => exact goR); intro gb5001 hg w6 hbox hb; have BK5001 := Aside0.mk (hbox); have GW5001 := gwE hg HB; have GE5001 := GW5001; have GI5001 := GE_.mk GE5001.out; replace HB := mvH HB hb; clear hb hbox hg) | ((with_reducible refine gate_callee (f := 9) rfl ?_); refine goesL_ (some 10) rfl rfl Tryd.func9 (by kernel_rfl) rfl #[.slice A0 l0.length c0] rfl goA ?_; (with_reducible refine (customsmade_Good.calls k _ _ l0 t5002 t5005 t5008 t5011 _ ?side1 ?side2 A3.out).mono ?_); (case side1 => repeat (first | exact (Kd.C_below HR0.out HB.out) | (with_reducible refine Kd.C_alloc ?_ _) | (with_reducible refine Kd.C_drewN ?_ _) | (with_reducible refine Kd.C_drew ?_))); (case side2 => exact HC0.out); rintro e w7 ⟨v5003, v5006, v5009, rfl, ho0, ho1, ho2, hb⟩; refine ⟨_, rfl, ?_⟩; have HO5004 := Aside0.mk (Kd.R_lower (Kd.R_mono (ok' := fun k_ => True) ho0 (fun _ hk_ => trivial)) (below_size (below_extB HB.out))); have HO5007 := Aside0.mk (Kd.R_lower (Kd.R_mono (ok' := fun k_ => True) ho1 (fun _ hk_ => trivial)) (below_size (below_extB HB.out))); have HO5010 := Aside0.mk (Kd.N_lower (Kd.N_mono (ok' := fun k_ => some k_ ≠ (v5003 : Value).ownBlock ∧ some k_ ≠ (v5006 : Value).ownBlock ∧ k_ ≠ gb5001) ho2 (fun k_ hk_ => ⟨hk_.2.1, hk_.2.2, (Kd.freshB (blk_ext BK5001.out) k_ hk_.1)⟩)) (below_size (below_extB HB.out))); replace BK5001 := mvB BK5001 hb; replace HB := mvH HB hb; (try clear hb); (try clear hb2); (try clear hk); (try clear hi); (try clear ho0); (try clear ho1); (try clear ho2)) | ((with_reducible refine gate_dst (N := 5) rfl ?_); refine box_event ?hg (N := 5) ?hd (cs := #[.slice none 0 0, .slice none 0 0, .slice none 0 0, .bool false]) (t := 26) ?hr ?_; (case hd => rfl); (case hg => rfl); (case hr => exact goR); intro gb5012 hg w8 hbox hb; have BK5012 := Aside0.mk (hbox); have GW5012 := gwB hg HB; have GE5012 := GW5012; have NB5001_5012 := nbL hg BK5001; have NB5012_5001 := nbR hg BK5001; have GI5012 := GE_.mk GE5012.out; have NI5001_5012 := NE_.mk NB5001_5012.out; have NI5012_5001 := NE_.mk NB5012_5001.out; replace HO5004 := mvR HO5004 hb; replace HO5007 := mvR HO5007 hb; replace HO5010 := awN HO5010 hb gb5012 hg; replace BK5001 := mvB BK5001 hb; replace HB := mvH HB hb; clear hb hbox hg; obtain ⟨Ao9, co9, eo9⟩ := Kd.R_slice HO5004.out; subst eo9; have hnb10 := NB5012_5001.out; have hnc10 := NB5001_5012.out; obtain ⟨hcz11_0, hcz11_1, hcz11_2, hcz11_3, hfz11_0, hfz11_1, hfz11_2, hfz11_3⟩ := bk4 BK5012.out; obtain ⟨Ao12, co12, eo12⟩ := Kd.R_slice HO5007.out; subst eo12; obtain ⟨Ao13, co13, eo13⟩ := Kd.N_slice HO5010.out; subst eo13) | ((with_reducible refine gate_callee (f := 14) rfl ?_); refine goesL_ (some 12) rfl rfl Tryd.func14 (by kernel_rfl) rfl #[.agg #[.slice Ao9 t5002.length co9, .slice Ao12 t5005.length co12, .slice Ao13 t5008.length co13, .bool t5011]] rfl goA ?_; (with_reducible refine (goods_Format.calls k _ _ t5002 _ _ t5005 _ _ t5008 t5011 t5013 _ ?side1 ?side2 ?side3 ?side4 ?side5 ?side6 A4.out ?side7).mono ?_); (case side1 => refine (Kd.R_reads' (e := 9) (base := w.heap.size) (ok := fun k_ => True) (n := t5002.length) (c := co9) ?_).2.2; exact (Kd.R_ext ((Kd.R_mono (Kd.R_far (p := ⟨gb5012, 3, none⟩) (Kd.R_far (p := ⟨gb5012, 2, none⟩) (Kd.R_far (p := ⟨gb5012, 1, none⟩) (Kd.R_far (p := ⟨gb5012, 0, none⟩) (Kd.R_types HO5004.out BK5012.out (by decide)) (fun _ hk => hk.2) (.slice Ao9 t5002.length co9)) (fun _ hk => hk.2) (.slice Ao12 t5005.length co12)) (fun _ hk => hk.2) (.slice Ao13 t5008.length co13)) (fun _ hk => hk.2) (.bool t5011)) (fun _ h_ => h_.1))))); (case side2 => exact (Kd.R_reads' HO5004.out).2.1); (case side3 => refine (Kd.R_reads' (e := 36) (base := w.heap.size) (ok := fun k_ => True) (n := t5005.length) (c := co12) ?_).2.2; exact (Kd.R_ext ((Kd.R_mono (Kd.R_far (p := ⟨gb5012, 3, none⟩) (Kd.R_far (p := ⟨gb5012, 2, none⟩) (Kd.R_far (p := ⟨gb5012, 1, none⟩) (Kd.R_far (p := ⟨gb5012, 0, none⟩) (Kd.R_types HO5007.out BK5012.out (by decide)) (fun _ hk => hk.2) (.slice Ao9 t5002.length co9)) (fun _ hk => hk.2) (.slice Ao12 t5005.length co12)) (fun _ hk => hk.2) (.slice Ao13 t5008.length co13)) (fun _ hk => hk.2) (.bool t5011)) (fun _ h_ => h_.1))))); (case side4 => exact (Kd.R_reads' HO5007.out).2.1); (case side5 => refine (Kd.N_reads' (e := 38) (base := w.heap.size) (ok := fun k_ => ((some k_ ≠ (.slice Ao9 t5002.length co9 : Value).ownBlock ∧ (some k_ ≠ (.slice Ao12 t5005.length co12 : Value).ownBlock ∧ k_ ≠ gb5001)) ∧ k_ ≠ gb5012)) (n := t5008.length) (c := co13) ?_).2.2; exact (Kd.N_ext ((Kd.N_mono (Kd.N_far (p := ⟨gb5012, 3, none⟩) (Kd.N_far (p := ⟨gb5012, 2, none⟩) (Kd.N_far (p := ⟨gb5012, 1, none⟩) (Kd.N_far (p := ⟨gb5012, 0, none⟩) (Kd.N_mono HO5010.out (fun k_ hk => (⟨hk, hk.2⟩ : _ ∧ k_ ≠ gb5012))) (fun _ hk => hk.2) (.slice Ao9 t5002.length co9)) (fun _ hk => hk.2) (.slice Ao12 t5005.length co12)) (fun _ hk => hk.2) (.slice Ao13 t5008.length co13)) (fun _ hk => hk.2) (.bool t5011)) (fun _ h_ => h_.1))))); (case side6 => exact (Kd.N_reads' HO5010.out).2.1); (case side7 => exact GL.below HG.out (below_extB HB.out)); rintro e w14 ⟨rfl, hb⟩; refine ⟨_, rfl, ?_⟩; replace HO5004 := Aside0.mk (Kd.R_below (Kd.R_ext ((Kd.R_mono (Kd.R_far (p := ⟨gb5012, 3, none⟩) (Kd.R_far (p := ⟨gb5012, 2, none⟩) (Kd.R_far (p := ⟨gb5012, 1, none⟩) (Kd.R_far (p := ⟨gb5012, 0, none⟩) (Kd.R_types HO5004.out BK5012.out (by decide)) (fun _ hk => hk.2) (.slice Ao9 t5002.length co9)) (fun _ hk => hk.2) (.slice Ao12 t5005.length co12)) (fun _ hk => hk.2) (.slice Ao13 t5008.length co13)) (fun _ hk => hk.2) (.bool t5011)) (fun _ h_ => h_.1)))) hb); replace HO5007 := Aside0.mk (Kd.R_below (Kd.R_ext ((Kd.R_mono (Kd.R_far (p := ⟨gb5012, 3, none⟩) (Kd.R_far (p := ⟨gb5012, 2, none⟩) (Kd.R_far (p := ⟨gb5012, 1, none⟩) (Kd.R_far (p := ⟨gb5012, 0, none⟩) (Kd.R_types HO5007.out BK5012.out (by decide)) (fun _ hk => hk.2) (.slice Ao9 t5002.length co9)) (fun _ hk => hk.2) (.slice Ao12 t5005.length co12)) (fun _ hk => hk.2) (.slice Ao13 t5008.length co13)) (fun _ hk => hk.2) (.bool t5011)) (fun _ h_ => h_.1)))) hb); replace HO5010 := Aside0.mk (Kd.N_below (Kd.N_ext ((Kd.N_mono (Kd.N_far (p := ⟨gb5012, 3, none⟩) (Kd.N_far (p := ⟨gb5012, 2, none⟩) (Kd.N_far (p := ⟨gb5012, 1, none⟩) (Kd.N_far (p := ⟨gb5012, 0, none⟩) (Kd.N_mono HO5010.out (fun k_ hk => (⟨hk, hk.2⟩ : _ ∧ k_ ≠ gb5012))) (fun _ hk => hk.2) (.slice Ao9 t5002.length co9)) (fun _ hk => hk.2) (.slice Ao12 t5005.length co12)) (fun _ hk => hk.2) (.slice Ao13 t5008.length co13)) (fun _ hk => hk.2) (.bool t5011)) (fun _ h_ => h_.1)))) hb); replace BK5001 := Aside0.mk (blk_below (blk_extC BK5001.out) hb); replace BK5012 := Aside0.mk (blk_below (g := gb5012) (o := .cells #[.slice Ao9 t5002.length co9, .slice Ao12 t5005.length co12, .slice Ao13 t5008.length co13, .bool t5011] 26 (0, 0)) (by (with_reducible repeat (first | refine blk_drewN ?_ _ | refine blk_drew ?_ | refine blk_alloc ?_ _)); refine blk_put (cs := #[.slice Ao9 t5002.length co9, .slice Ao12 t5005.length co12, .slice Ao13 t5008.length co13, .bool false]) ?_ 3 _ rfl; (with_reducible repeat (first | refine blk_drewN ?_ _ | refine blk_drew ?_ | refine blk_alloc ?_ _)); refine blk_put (cs := #[.slice Ao9 t5002.length co9, .slice Ao12 t5005.length co12, .slice none 0 0, .bool false]) ?_ 2 _ rfl; (with_reducible repeat (first | refine blk_drewN ?_ _ | refine blk_drew ?_ | refine blk_alloc ?_ _)); refine blk_put (cs := #[.slice Ao9 t5002.length co9, .slice none 0 0, .slice none 0 0, .bool false]) ?_ 1 _ rfl; (with_reducible repeat (first | refine blk_drewN ?_ _ | refine blk_drew ?_ | refine blk_alloc ?_ _)); refine blk_put (cs := #[.slice none 0 0, .slice none 0 0, .slice none 0 0, .bool false]) ?_ 0 _ rfl; exact blk_ext BK5012.out) hb); replace HB := mvH HB hb; (try clear hb); (try clear hb2); (try clear hk); (try clear hi)))
 (try simp only [Act.put, List.setIfInBounds_toArray, List.set_cons_zero, List.set_cons_succ])
 go_cut [25] (fun v25 wc => ∃ (kq : Nat) (x25_4 : Bool), v25 = .bool x25_4 ∧ Aside0 (customslaw08_GoodsFormat.j0 kq t5013 x25_4 t5002 t5005 t5008 t5011 = some r) ∧ Aside0 (kq ≤ k) ∧ Aside0 (Kd.R Kd.string 9 wc w.heap.size (fun _ => True) (.slice Ao9 t5002.length co9) t5002) ∧ Aside0 (Kd.R k36 36 wc w.heap.size (fun _ => True) (.slice Ao12 t5005.length co12) t5005) ∧ Aside0 (Kd.N k38 38 wc w.heap.size (fun k_ => some k_ ≠ ((.slice Ao9 t5002.length co9) : Value).ownBlock ∧ some k_ ≠ ((.slice Ao12 t5005.length co12) : Value).ownBlock ∧ k_ ≠ gb5012) (.slice Ao13 t5008.length co13) t5008) ∧ Aside0 (wc.heap[gb5012]? = some (.cells #[(.slice Ao9 t5002.length co9), (.slice Ao12 t5005.length co12), (.slice Ao13 t5008.length co13), .bool t5011] 26 (0, 0))) ∧ Aside0 (Below w.heap.size w wc))
 case first =>
  have H := HC5.out
  clear HC5
  replace H := Option.bind_eq_some_iff.mp H
  obtain ⟨t5014, A150, H⟩ := H
  try dsimp only at H
  have A15 := Aside0.mk A150
  clear A150
  by_cases c16 : t5013.toList = t5014.toList
  ·
   rw [if_pos c16] at H
   have c16b0 : (t5013.toList == t5014.toList) = true := beq_iff_eq.mpr c16
   have c16b1 : (t5013.toList != t5014.toList) = false := bne_eq_false_iff_eq.mpr c16
   clear c16
   (first | rw [c16b0] | (simp only [i64_w, i32_w]; rw [c16b0]) | rw [c16b1] | skip)
   replace H := Option.bind_eq_some_iff.mp H
   obtain ⟨⟨t5015, t5018, t5021, t5024⟩, A170, H⟩ := H
   try dsimp only at H
   have A17 := Aside0.mk A170
   clear A170
   replace H := Option.bind_eq_some_iff.mp H
   obtain ⟨t5025, A180, H⟩ := H
   try dsimp only at H
   have A18 := Aside0.mk A180
   clear A180
   replace H := Option.bind_eq_some_iff.mp H
   obtain ⟨⟨t5026, t5029, t5032, t5035⟩, A190, H⟩ := H
   try dsimp only at H
   have A19 := Aside0.mk A190
   clear A190
   replace H := Option.bind_eq_some_iff.mp H
   obtain ⟨t5036, A200, H⟩ := H
   try dsimp only at H
   have A20 := Aside0.mk A200
   clear A200
   have H' := Aside0.mk H
   clear H
   try go_wp2
   replace HO5004 := Aside0.mk (Kd.R_drew HO5004.out)
   replace HO5007 := Aside0.mk (Kd.R_drew HO5007.out)
   replace HO5010 := Aside0.mk (Kd.N_drew HO5010.out)
   replace BK5001 := Aside0.mk (blk_drew BK5001.out)
   replace BK5012 := Aside0.mk (blk_drew BK5012.out)
   replace HB := Aside0.mk (below_drew1 HB.out)
   refine start_ (n := 13) (S := fun w' => w'.cell? ⟨gb5012, 0, none⟩ = some (.slice Ao9 t5002.length co9) ∧ w'.cell? ⟨gb5012, 1, none⟩ = some (.slice Ao12 t5005.length co12) ∧ w'.cell? ⟨gb5012, 2, none⟩ = some (.slice Ao13 t5008.length co13) ∧ w'.cell? ⟨gb5012, 3, none⟩ = some (.bool t5011) ∧ w'.cell? ⟨gb5001, 0, none⟩ = some (.slice A1_0 l1_0.length c1_0) ∧ w'.cell? ⟨gb5001, 1, none⟩ = some (.slice A1_1 l1_1.length c1_1) ∧ w'.cell? ⟨gb5001, 2, none⟩ = some (.slice A1_2 l1_2.length c1_2) ∧ w'.cell? ⟨gb5001, 3, none⟩ = some (.bool a1_3)) (ds := []) #[false, false, false, false, false, false, false, false, false, false, false, false, false] (by kernel_rfl) rfl rfl ⟨bc BK5012 0, bc BK5012 1, bc BK5012 2, bc BK5012 3, bc BK5001 0, bc BK5001 1, bc BK5001 2, bc BK5001 3⟩ (fun hHeld => ?_); refine with_tabW customslaw08_GoodsFormat.tab3 customslaw08_GoodsFormat.bits3 (fun HT_ HW_ => ?_)
   generalize w14.drew = w21 at HO5004 HO5007 HO5010 BK5001 BK5012 HB hHeld ⊢
   refine purE 0 (some 13) HT_ ?_
   refine tkE 1 (some 14) HT_ HW_ hHeld ?_ (hy := by rintro w' ⟨s0, s1, s2, s3, s4, s5, s6, s7⟩; go_simp; with_reducible rfl)
   refine oneE 2 (some 15) HT_ (fun K hK => ?_)
   refine goes_ Tryd.func15 (by kernel_rfl) rfl #[.agg #[.slice Ao9 t5002.length co9, .slice Ao12 t5005.length co12, .slice Ao13 t5008.length co13, .bool t5011]] (by rfl) rfl rfl goB ?_
   with_reducible refine (customsref08_FormatGood.calls k _ _ t5002 _ _ t5005 _ _ t5008 t5011 t5014 _ ?side1 ?side2 ?side3 ?side4 ?side5 ?side6 A15.out).mono ?_
   (case side1 => exact Kd.C_ext (Kd.R_reads' HO5004.out).2.2)
   (case side2 => exact (Kd.R_reads' HO5004.out).2.1)
   (case side3 => exact Kd.C_ext (Kd.R_reads' HO5007.out).2.2)
   (case side4 => exact (Kd.R_reads' HO5007.out).2.1)
   (case side5 => exact Kd.C_ext (Kd.N_reads' HO5010.out).2.2)
   (case side6 => exact (Kd.N_reads' HO5010.out).2.1)
   rintro e w22 ⟨rfl, hb⟩
   refine ⟨_, rfl, ?_⟩
   replace HO5004 := mvR HO5004 hb
   replace HO5007 := mvR HO5007 hb
   replace HO5010 := mvN HO5010 hb
   replace BK5001 := mvB BK5001 hb
   replace BK5012 := mvB BK5012 hb
   replace HB := mvH HB hb
   (try clear hb)
   (try clear hb2)
   (try clear hk)
   (try clear hi)
   refine hK.out _ _ ⟨bc BK5012 0, bc BK5012 1, bc BK5012 2, bc BK5012 3, bc BK5001 0, bc BK5001 1, bc BK5001 2, bc BK5001 3⟩ (fun hHeld => ?_)
   clear hK K
   refine nrmE (some 15) ?_
   refine purE 3 (some 16) HT_ ?_
   refine purE 4 (some 17) HT_ ?_
   refine tkE 5 (some 18) HT_ HW_ hHeld ?_ (hy := by rintro w' ⟨s0, s1, s2, s3, s4, s5, s6, s7⟩; go_simp; with_reducible rfl)
   refine tkE 8 (some 21) HT_ HW_ hHeld ?_ (hy := by rintro w' ⟨s0, s1, s2, s3, s4, s5, s6, s7⟩; go_simp; with_reducible rfl)
   refine oneE 6 (some 19) HT_ (fun K hK => ?_)
   refine goes_ Tryd.func8 (by kernel_rfl) rfl #[.agg #[.slice A1_0 l1_0.length c1_0, .slice A1_1 l1_1.length c1_1, .slice A1_2 l1_2.length c1_2, .bool a1_3]] (by rfl) rfl rfl goB ?_
   with_reducible refine (customslaw08_small.calls (fun k_ => k_ < w.heap.size) _ _ l1_0 (fun k_ => k_ < w.heap.size) _ _ l1_1 (fun k_ => k_ < w.heap.size) _ _ l1_2 a1_3 t5015 t5018 t5021 t5024 _ ?side1 ?side2 ?side3 A17.out).mono ?_
   (case side1 => exact Kd.V_mk HC1_0.out (Kd.F_below (Kd.C_F Kd.heap_string HR1_0.out) (below_extB HB.out)))
   (case side2 => exact Kd.V_mk HC1_1.out (Kd.F_below (Kd.C_F k36_heap HR1_1.out) (below_extB HB.out)))
   (case side3 => exact Kd.V_mk HC1_2.out (Kd.F_below (Kd.C_F k38_heap HR1_2.out) (below_extB HB.out)))
   rintro e w23 ⟨v5016, v5019, v5022, rfl, ho0, ho1, ho2, hb⟩
   refine ⟨_, rfl, ?_⟩
   have HO5017 := Aside0.mk (Kd.V_lower (Kd.V_mono (ok' := fun k_ => some k_ ≠ (.slice Ao9 t5002.length co9 : Value).ownBlock ∧ some k_ ≠ (.slice Ao12 t5005.length co12 : Value).ownBlock ∧ some k_ ≠ (.slice Ao13 t5008.length co13 : Value).ownBlock ∧ k_ ≠ gb5001 ∧ k_ ≠ gb5012) ho0 (fun k_ hk_ => ⟨Or.elim hk_ (fun hs_ => Or.elim hs_ (fun hs_ => fun e_ => Nat.not_le.2 hs_ (Kd.R_base HO5004.out k_ e_.symm)) (fun hs_ => Or.elim hs_ (fun hs_ => fun e_ => Nat.not_le.2 hs_ (Kd.R_base HO5004.out k_ e_.symm)) (fun hs_ => fun e_ => Nat.not_le.2 hs_ (Kd.R_base HO5004.out k_ e_.symm)))) (fun hn_ => (Kd.fresh' (Kd.R_lt (Kd.R_ext HO5004.out)) k_ hn_)), Or.elim hk_ (fun hs_ => Or.elim hs_ (fun hs_ => fun e_ => Nat.not_le.2 hs_ (Kd.R_base HO5007.out k_ e_.symm)) (fun hs_ => Or.elim hs_ (fun hs_ => fun e_ => Nat.not_le.2 hs_ (Kd.R_base HO5007.out k_ e_.symm)) (fun hs_ => fun e_ => Nat.not_le.2 hs_ (Kd.R_base HO5007.out k_ e_.symm)))) (fun hn_ => (Kd.fresh' (Kd.R_lt (Kd.R_ext HO5007.out)) k_ hn_)), Or.elim hk_ (fun hs_ => Or.elim hs_ (fun hs_ => fun e_ => Nat.not_le.2 hs_ (Kd.N_base HO5010.out k_ e_.symm)) (fun hs_ => Or.elim hs_ (fun hs_ => fun e_ => Nat.not_le.2 hs_ (Kd.N_base HO5010.out k_ e_.symm)) (fun hs_ => fun e_ => Nat.not_le.2 hs_ (Kd.N_base HO5010.out k_ e_.symm)))) (fun hn_ => (Kd.fresh' (Kd.N_lt (Kd.N_ext HO5010.out)) k_ hn_)), Or.elim hk_ (fun hs_ => Or.elim hs_ (fun hs_ => fun e_ => Nat.not_le.2 hs_ (by rw [e_]; exact GW5001.out)) (fun hs_ => Or.elim hs_ (fun hs_ => fun e_ => Nat.not_le.2 hs_ (by rw [e_]; exact GW5001.out)) (fun hs_ => fun e_ => Nat.not_le.2 hs_ (by rw [e_]; exact GW5001.out)))) (fun hn_ => (Kd.freshB (blk_ext BK5001.out) k_ hn_)), Or.elim hk_ (fun hs_ => Or.elim hs_ (fun hs_ => fun e_ => Nat.not_le.2 hs_ (by rw [e_]; exact GW5012.out)) (fun hs_ => Or.elim hs_ (fun hs_ => fun e_ => Nat.not_le.2 hs_ (by rw [e_]; exact GW5012.out)) (fun hs_ => fun e_ => Nat.not_le.2 hs_ (by rw [e_]; exact GW5012.out)))) (fun hn_ => (Kd.freshB (blk_ext BK5012.out) k_ hn_))⟩)) (below_size (below_extB HB.out)))
   have HO5020 := Aside0.mk (Kd.V_lower (Kd.V_mono (ok' := fun k_ => some k_ ≠ (.slice Ao9 t5002.length co9 : Value).ownBlock ∧ some k_ ≠ (.slice Ao12 t5005.length co12 : Value).ownBlock ∧ some k_ ≠ (.slice Ao13 t5008.length co13 : Value).ownBlock ∧ k_ ≠ gb5001 ∧ k_ ≠ gb5012) ho1 (fun k_ hk_ => ⟨Or.elim hk_ (fun hs_ => Or.elim hs_ (fun hs_ => fun e_ => Nat.not_le.2 hs_ (Kd.R_base HO5004.out k_ e_.symm)) (fun hs_ => Or.elim hs_ (fun hs_ => fun e_ => Nat.not_le.2 hs_ (Kd.R_base HO5004.out k_ e_.symm)) (fun hs_ => fun e_ => Nat.not_le.2 hs_ (Kd.R_base HO5004.out k_ e_.symm)))) (fun hn_ => (Kd.fresh' (Kd.R_lt (Kd.R_ext HO5004.out)) k_ hn_)), Or.elim hk_ (fun hs_ => Or.elim hs_ (fun hs_ => fun e_ => Nat.not_le.2 hs_ (Kd.R_base HO5007.out k_ e_.symm)) (fun hs_ => Or.elim hs_ (fun hs_ => fun e_ => Nat.not_le.2 hs_ (Kd.R_base HO5007.out k_ e_.symm)) (fun hs_ => fun e_ => Nat.not_le.2 hs_ (Kd.R_base HO5007.out k_ e_.symm)))) (fun hn_ => (Kd.fresh' (Kd.R_lt (Kd.R_ext HO5007.out)) k_ hn_)), Or.elim hk_ (fun hs_ => Or.elim hs_ (fun hs_ => fun e_ => Nat.not_le.2 hs_ (Kd.N_base HO5010.out k_ e_.symm)) (fun hs_ => Or.elim hs_ (fun hs_ => fun e_ => Nat.not_le.2 hs_ (Kd.N_base HO5010.out k_ e_.symm)) (fun hs_ => fun e_ => Nat.not_le.2 hs_ (Kd.N_base HO5010.out k_ e_.symm)))) (fun hn_ => (Kd.fresh' (Kd.N_lt (Kd.N_ext HO5010.out)) k_ hn_)), Or.elim hk_ (fun hs_ => Or.elim hs_ (fun hs_ => fun e_ => Nat.not_le.2 hs_ (by rw [e_]; exact GW5001.out)) (fun hs_ => Or.elim hs_ (fun hs_ => fun e_ => Nat.not_le.2 hs_ (by rw [e_]; exact GW5001.out)) (fun hs_ => fun e_ => Nat.not_le.2 hs_ (by rw [e_]; exact GW5001.out)))) (fun hn_ => (Kd.freshB (blk_ext BK5001.out) k_ hn_)), Or.elim hk_ (fun hs_ => Or.elim hs_ (fun hs_ => fun e_ => Nat.not_le.2 hs_ (by rw [e_]; exact GW5012.out)) (fun hs_ => Or.elim hs_ (fun hs_ => fun e_ => Nat.not_le.2 hs_ (by rw [e_]; exact GW5012.out)) (fun hs_ => fun e_ => Nat.not_le.2 hs_ (by rw [e_]; exact GW5012.out)))) (fun hn_ => (Kd.freshB (blk_ext BK5012.out) k_ hn_))⟩)) (below_size (below_extB HB.out)))
   have HO5023 := Aside0.mk (Kd.V_lower (Kd.V_mono (ok' := fun k_ => some k_ ≠ (.slice Ao9 t5002.length co9 : Value).ownBlock ∧ some k_ ≠ (.slice Ao12 t5005.length co12 : Value).ownBlock ∧ some k_ ≠ (.slice Ao13 t5008.length co13 : Value).ownBlock ∧ k_ ≠ gb5001 ∧ k_ ≠ gb5012) ho2 (fun k_ hk_ => ⟨Or.elim hk_ (fun hs_ => Or.elim hs_ (fun hs_ => fun e_ => Nat.not_le.2 hs_ (Kd.R_base HO5004.out k_ e_.symm)) (fun hs_ => Or.elim hs_ (fun hs_ => fun e_ => Nat.not_le.2 hs_ (Kd.R_base HO5004.out k_ e_.symm)) (fun hs_ => fun e_ => Nat.not_le.2 hs_ (Kd.R_base HO5004.out k_ e_.symm)))) (fun hn_ => (Kd.fresh' (Kd.R_lt (Kd.R_ext HO5004.out)) k_ hn_)), Or.elim hk_ (fun hs_ => Or.elim hs_ (fun hs_ => fun e_ => Nat.not_le.2 hs_ (Kd.R_base HO5007.out k_ e_.symm)) (fun hs_ => Or.elim hs_ (fun hs_ => fun e_ => Nat.not_le.2 hs_ (Kd.R_base HO5007.out k_ e_.symm)) (fun hs_ => fun e_ => Nat.not_le.2 hs_ (Kd.R_base HO5007.out k_ e_.symm)))) (fun hn_ => (Kd.fresh' (Kd.R_lt (Kd.R_ext HO5007.out)) k_ hn_)), Or.elim hk_ (fun hs_ => Or.elim hs_ (fun hs_ => fun e_ => Nat.not_le.2 hs_ (Kd.N_base HO5010.out k_ e_.symm)) (fun hs_ => Or.elim hs_ (fun hs_ => fun e_ => Nat.not_le.2 hs_ (Kd.N_base HO5010.out k_ e_.symm)) (fun hs_ => fun e_ => Nat.not_le.2 hs_ (Kd.N_base HO5010.out k_ e_.symm)))) (fun hn_ => (Kd.fresh' (Kd.N_lt (Kd.N_ext HO5010.out)) k_ hn_)), Or.elim hk_ (fun hs_ => Or.elim hs_ (fun hs_ => fun e_ => Nat.not_le.2 hs_ (by rw [e_]; exact GW5001.out)) (fun hs_ => Or.elim hs_ (fun hs_ => fun e_ => Nat.not_le.2 hs_ (by rw [e_]; exact GW5001.out)) (fun hs_ => fun e_ => Nat.not_le.2 hs_ (by rw [e_]; exact GW5001.out)))) (fun hn_ => (Kd.freshB (blk_ext BK5001.out) k_ hn_)), Or.elim hk_ (fun hs_ => Or.elim hs_ (fun hs_ => fun e_ => Nat.not_le.2 hs_ (by rw [e_]; exact GW5012.out)) (fun hs_ => Or.elim hs_ (fun hs_ => fun e_ => Nat.not_le.2 hs_ (by rw [e_]; exact GW5012.out)) (fun hs_ => fun e_ => Nat.not_le.2 hs_ (by rw [e_]; exact GW5012.out)))) (fun hn_ => (Kd.freshB (blk_ext BK5012.out) k_ hn_))⟩)) (below_size (below_extB HB.out)))
   replace HO5004 := mvR HO5004 hb
   replace HO5007 := mvR HO5007 hb
   replace HO5010 := mvN HO5010 hb
   replace BK5001 := mvB BK5001 hb
   replace BK5012 := mvB BK5012 hb
   replace HB := mvH HB hb
   (try clear hb)
   (try clear hb2)
   (try clear hk)
   (try clear hi)
   (try clear ho0)
   (try clear ho1)
   (try clear ho2)
   obtain ⟨Ao24, co24, eo24⟩ := Kd.V_slice HO5017.out
   (first | subst eo24 | (injection eo24 with f1_ f2_ f3_; have f4_ := f1_.symm; have f5_ := f3_.symm; clear f1_ f2_ f3_; subst f4_; subst f5_))
   obtain ⟨Ao25, co25, eo25⟩ := Kd.V_slice HO5020.out
   (first | subst eo25 | (injection eo25 with f1_ f2_ f3_; have f4_ := f1_.symm; have f5_ := f3_.symm; clear f1_ f2_ f3_; subst f4_; subst f5_))
   obtain ⟨Ao26, co26, eo26⟩ := Kd.V_slice HO5023.out
   (first | subst eo26 | (injection eo26 with f1_ f2_ f3_; have f4_ := f1_.symm; have f5_ := f3_.symm; clear f1_ f2_ f3_; subst f4_; subst f5_))
   refine hK.out _ _ ⟨bc BK5012 0, bc BK5012 1, bc BK5012 2, bc BK5012 3, bc BK5001 0, bc BK5001 1, bc BK5001 2, bc BK5001 3⟩ (fun hHeld => ?_)
   clear hK K
   refine nrmE (some 19) ?_
   refine oneE 7 (some 20) HT_ (fun K hK => ?_)
   refine goes_ Tryd.func14 (by kernel_rfl) rfl #[.agg #[.slice Ao24 t5015.length co24, .slice Ao25 t5018.length co25, .slice Ao26 t5021.length co26, .bool t5024]] (by rfl) rfl rfl goB ?_
   with_reducible refine (goods_Format.calls k _ _ t5015 _ _ t5018 _ _ t5021 t5024 t5025 _ ?side1 ?side2 ?side3 ?side4 ?side5 ?side6 A18.out ?side7).mono ?_
   (case side1 => exact Kd.C_ext (Kd.V_reads' HO5017.out).2.2)
   (case side2 => exact (Kd.V_reads' HO5017.out).2.1)
   (case side3 => exact Kd.C_ext (Kd.V_reads' HO5020.out).2.2)
   (case side4 => exact (Kd.V_reads' HO5020.out).2.1)
   (case side5 => exact Kd.C_ext (Kd.V_reads' HO5023.out).2.2)
   (case side6 => exact (Kd.V_reads' HO5023.out).2.1)
   (case side7 => exact GL.below HG.out (below_extB HB.out))
   rintro e w27 ⟨rfl, hb⟩
   refine ⟨_, rfl, ?_⟩
   replace HO5004 := mvR HO5004 hb
   replace HO5007 := mvR HO5007 hb
   replace HO5010 := mvN HO5010 hb
   replace HO5017 := mvV HO5017 hb
   replace HO5020 := mvV HO5020 hb
   replace HO5023 := mvV HO5023 hb
   replace BK5001 := mvB BK5001 hb
   replace BK5012 := mvB BK5012 hb
   replace HB := mvH HB hb
   (try clear hb)
   (try clear hb2)
   (try clear hk)
   (try clear hi)
   refine hK.out _ _ ⟨bc BK5012 0, bc BK5012 1, bc BK5012 2, bc BK5012 3, bc BK5001 0, bc BK5001 1, bc BK5001 2, bc BK5001 3⟩ (fun hHeld => ?_)
   clear hK K
   refine nrmE (some 20) ?_
   refine oneE 9 (some 22) HT_ (fun K hK => ?_)
   refine goes_ Tryd.func8 (by kernel_rfl) rfl #[.agg #[.slice A1_0 l1_0.length c1_0, .slice A1_1 l1_1.length c1_1, .slice A1_2 l1_2.length c1_2, .bool a1_3]] (by rfl) rfl rfl goB ?_
   with_reducible refine (customslaw08_small.calls (fun k_ => k_ < w.heap.size) _ _ l1_0 (fun k_ => k_ < w.heap.size) _ _ l1_1 (fun k_ => k_ < w.heap.size) _ _ l1_2 a1_3 t5026 t5029 t5032 t5035 _ ?side1 ?side2 ?side3 A19.out).mono ?_
   (case side1 => exact Kd.V_mk HC1_0.out (Kd.F_below (Kd.C_F Kd.heap_string HR1_0.out) (below_extB HB.out)))
   (case side2 => exact Kd.V_mk HC1_1.out (Kd.F_below (Kd.C_F k36_heap HR1_1.out) (below_extB HB.out)))
   (case side3 => exact Kd.V_mk HC1_2.out (Kd.F_below (Kd.C_F k38_heap HR1_2.out) (below_extB HB.out)))
   rintro e w28 ⟨v5027, v5030, v5033, rfl, ho0, ho1, ho2, hb⟩
   refine ⟨_, rfl, ?_⟩
   have HO5028 := Aside0.mk (Kd.V_lower (Kd.V_mono (ok' := fun k_ => some k_ ≠ (.slice Ao9 t5002.length co9 : Value).ownBlock ∧ some k_ ≠ (.slice Ao12 t5005.length co12 : Value).ownBlock ∧ some k_ ≠ (.slice Ao13 t5008.length co13 : Value).ownBlock ∧ k_ ≠ gb5001 ∧ k_ ≠ gb5012) ho0 (fun k_ hk_ => ⟨Or.elim hk_ (fun hs_ => Or.elim hs_ (fun hs_ => fun e_ => Nat.not_le.2 hs_ (Kd.R_base HO5004.out k_ e_.symm)) (fun hs_ => Or.elim hs_ (fun hs_ => fun e_ => Nat.not_le.2 hs_ (Kd.R_base HO5004.out k_ e_.symm)) (fun hs_ => fun e_ => Nat.not_le.2 hs_ (Kd.R_base HO5004.out k_ e_.symm)))) (fun hn_ => (Kd.fresh' (Kd.R_lt (Kd.R_ext HO5004.out)) k_ hn_)), Or.elim hk_ (fun hs_ => Or.elim hs_ (fun hs_ => fun e_ => Nat.not_le.2 hs_ (Kd.R_base HO5007.out k_ e_.symm)) (fun hs_ => Or.elim hs_ (fun hs_ => fun e_ => Nat.not_le.2 hs_ (Kd.R_base HO5007.out k_ e_.symm)) (fun hs_ => fun e_ => Nat.not_le.2 hs_ (Kd.R_base HO5007.out k_ e_.symm)))) (fun hn_ => (Kd.fresh' (Kd.R_lt (Kd.R_ext HO5007.out)) k_ hn_)), Or.elim hk_ (fun hs_ => Or.elim hs_ (fun hs_ => fun e_ => Nat.not_le.2 hs_ (Kd.N_base HO5010.out k_ e_.symm)) (fun hs_ => Or.elim hs_ (fun hs_ => fun e_ => Nat.not_le.2 hs_ (Kd.N_base HO5010.out k_ e_.symm)) (fun hs_ => fun e_ => Nat.not_le.2 hs_ (Kd.N_base HO5010.out k_ e_.symm)))) (fun hn_ => (Kd.fresh' (Kd.N_lt (Kd.N_ext HO5010.out)) k_ hn_)), Or.elim hk_ (fun hs_ => Or.elim hs_ (fun hs_ => fun e_ => Nat.not_le.2 hs_ (by rw [e_]; exact GW5001.out)) (fun hs_ => Or.elim hs_ (fun hs_ => fun e_ => Nat.not_le.2 hs_ (by rw [e_]; exact GW5001.out)) (fun hs_ => fun e_ => Nat.not_le.2 hs_ (by rw [e_]; exact GW5001.out)))) (fun hn_ => (Kd.freshB (blk_ext BK5001.out) k_ hn_)), Or.elim hk_ (fun hs_ => Or.elim hs_ (fun hs_ => fun e_ => Nat.not_le.2 hs_ (by rw [e_]; exact GW5012.out)) (fun hs_ => Or.elim hs_ (fun hs_ => fun e_ => Nat.not_le.2 hs_ (by rw [e_]; exact GW5012.out)) (fun hs_ => fun e_ => Nat.not_le.2 hs_ (by rw [e_]; exact GW5012.out)))) (fun hn_ => (Kd.freshB (blk_ext BK5012.out) k_ hn_))⟩)) (below_size (below_extB HB.out)))
   have HO5031 := Aside0.mk (Kd.V_lower (Kd.V_mono (ok' := fun k_ => some k_ ≠ (.slice Ao9 t5002.length co9 : Value).ownBlock ∧ some k_ ≠ (.slice Ao12 t5005.length co12 : Value).ownBlock ∧ some k_ ≠ (.slice Ao13 t5008.length co13 : Value).ownBlock ∧ k_ ≠ gb5001 ∧ k_ ≠ gb5012) ho1 (fun k_ hk_ => ⟨Or.elim hk_ (fun hs_ => Or.elim hs_ (fun hs_ => fun e_ => Nat.not_le.2 hs_ (Kd.R_base HO5004.out k_ e_.symm)) (fun hs_ => Or.elim hs_ (fun hs_ => fun e_ => Nat.not_le.2 hs_ (Kd.R_base HO5004.out k_ e_.symm)) (fun hs_ => fun e_ => Nat.not_le.2 hs_ (Kd.R_base HO5004.out k_ e_.symm)))) (fun hn_ => (Kd.fresh' (Kd.R_lt (Kd.R_ext HO5004.out)) k_ hn_)), Or.elim hk_ (fun hs_ => Or.elim hs_ (fun hs_ => fun e_ => Nat.not_le.2 hs_ (Kd.R_base HO5007.out k_ e_.symm)) (fun hs_ => Or.elim hs_ (fun hs_ => fun e_ => Nat.not_le.2 hs_ (Kd.R_base HO5007.out k_ e_.symm)) (fun hs_ => fun e_ => Nat.not_le.2 hs_ (Kd.R_base HO5007.out k_ e_.symm)))) (fun hn_ => (Kd.fresh' (Kd.R_lt (Kd.R_ext HO5007.out)) k_ hn_)), Or.elim hk_ (fun hs_ => Or.elim hs_ (fun hs_ => fun e_ => Nat.not_le.2 hs_ (Kd.N_base HO5010.out k_ e_.symm)) (fun hs_ => Or.elim hs_ (fun hs_ => fun e_ => Nat.not_le.2 hs_ (Kd.N_base HO5010.out k_ e_.symm)) (fun hs_ => fun e_ => Nat.not_le.2 hs_ (Kd.N_base HO5010.out k_ e_.symm)))) (fun hn_ => (Kd.fresh' (Kd.N_lt (Kd.N_ext HO5010.out)) k_ hn_)), Or.elim hk_ (fun hs_ => Or.elim hs_ (fun hs_ => fun e_ => Nat.not_le.2 hs_ (by rw [e_]; exact GW5001.out)) (fun hs_ => Or.elim hs_ (fun hs_ => fun e_ => Nat.not_le.2 hs_ (by rw [e_]; exact GW5001.out)) (fun hs_ => fun e_ => Nat.not_le.2 hs_ (by rw [e_]; exact GW5001.out)))) (fun hn_ => (Kd.freshB (blk_ext BK5001.out) k_ hn_)), Or.elim hk_ (fun hs_ => Or.elim hs_ (fun hs_ => fun e_ => Nat.not_le.2 hs_ (by rw [e_]; exact GW5012.out)) (fun hs_ => Or.elim hs_ (fun hs_ => fun e_ => Nat.not_le.2 hs_ (by rw [e_]; exact GW5012.out)) (fun hs_ => fun e_ => Nat.not_le.2 hs_ (by rw [e_]; exact GW5012.out)))) (fun hn_ => (Kd.freshB (blk_ext BK5012.out) k_ hn_))⟩)) (below_size (below_extB HB.out)))
   have HO5034 := Aside0.mk (Kd.V_lower (Kd.V_mono (ok' := fun k_ => some k_ ≠ (.slice Ao9 t5002.length co9 : Value).ownBlock ∧ some k_ ≠ (.slice Ao12 t5005.length co12 : Value).ownBlock ∧ some k_ ≠ (.slice Ao13 t5008.length co13 : Value).ownBlock ∧ k_ ≠ gb5001 ∧ k_ ≠ gb5012) ho2 (fun k_ hk_ => ⟨Or.elim hk_ (fun hs_ => Or.elim hs_ (fun hs_ => fun e_ => Nat.not_le.2 hs_ (Kd.R_base HO5004.out k_ e_.symm)) (fun hs_ => Or.elim hs_ (fun hs_ => fun e_ => Nat.not_le.2 hs_ (Kd.R_base HO5004.out k_ e_.symm)) (fun hs_ => fun e_ => Nat.not_le.2 hs_ (Kd.R_base HO5004.out k_ e_.symm)))) (fun hn_ => (Kd.fresh' (Kd.R_lt (Kd.R_ext HO5004.out)) k_ hn_)), Or.elim hk_ (fun hs_ => Or.elim hs_ (fun hs_ => fun e_ => Nat.not_le.2 hs_ (Kd.R_base HO5007.out k_ e_.symm)) (fun hs_ => Or.elim hs_ (fun hs_ => fun e_ => Nat.not_le.2 hs_ (Kd.R_base HO5007.out k_ e_.symm)) (fun hs_ => fun e_ => Nat.not_le.2 hs_ (Kd.R_base HO5007.out k_ e_.symm)))) (fun hn_ => (Kd.fresh' (Kd.R_lt (Kd.R_ext HO5007.out)) k_ hn_)), Or.elim hk_ (fun hs_ => Or.elim hs_ (fun hs_ => fun e_ => Nat.not_le.2 hs_ (Kd.N_base HO5010.out k_ e_.symm)) (fun hs_ => Or.elim hs_ (fun hs_ => fun e_ => Nat.not_le.2 hs_ (Kd.N_base HO5010.out k_ e_.symm)) (fun hs_ => fun e_ => Nat.not_le.2 hs_ (Kd.N_base HO5010.out k_ e_.symm)))) (fun hn_ => (Kd.fresh' (Kd.N_lt (Kd.N_ext HO5010.out)) k_ hn_)), Or.elim hk_ (fun hs_ => Or.elim hs_ (fun hs_ => fun e_ => Nat.not_le.2 hs_ (by rw [e_]; exact GW5001.out)) (fun hs_ => Or.elim hs_ (fun hs_ => fun e_ => Nat.not_le.2 hs_ (by rw [e_]; exact GW5001.out)) (fun hs_ => fun e_ => Nat.not_le.2 hs_ (by rw [e_]; exact GW5001.out)))) (fun hn_ => (Kd.freshB (blk_ext BK5001.out) k_ hn_)), Or.elim hk_ (fun hs_ => Or.elim hs_ (fun hs_ => fun e_ => Nat.not_le.2 hs_ (by rw [e_]; exact GW5012.out)) (fun hs_ => Or.elim hs_ (fun hs_ => fun e_ => Nat.not_le.2 hs_ (by rw [e_]; exact GW5012.out)) (fun hs_ => fun e_ => Nat.not_le.2 hs_ (by rw [e_]; exact GW5012.out)))) (fun hn_ => (Kd.freshB (blk_ext BK5012.out) k_ hn_))⟩)) (below_size (below_extB HB.out)))
   replace HO5004 := mvR HO5004 hb
   replace HO5007 := mvR HO5007 hb
   replace HO5010 := mvN HO5010 hb
   replace HO5017 := mvV HO5017 hb
   replace HO5020 := mvV HO5020 hb
   replace HO5023 := mvV HO5023 hb
   replace BK5001 := mvB BK5001 hb
   replace BK5012 := mvB BK5012 hb
   replace HB := mvH HB hb
   (try clear hb)
   (try clear hb2)
   (try clear hk)
   (try clear hi)
   (try clear ho0)
   (try clear ho1)
   (try clear ho2)
   obtain ⟨Ao29, co29, eo29⟩ := Kd.V_slice HO5028.out
   (first | subst eo29 | (injection eo29 with f1_ f2_ f3_; have f4_ := f1_.symm; have f5_ := f3_.symm; clear f1_ f2_ f3_; subst f4_; subst f5_))
   obtain ⟨Ao30, co30, eo30⟩ := Kd.V_slice HO5031.out
   (first | subst eo30 | (injection eo30 with f1_ f2_ f3_; have f4_ := f1_.symm; have f5_ := f3_.symm; clear f1_ f2_ f3_; subst f4_; subst f5_))
   obtain ⟨Ao31, co31, eo31⟩ := Kd.V_slice HO5034.out
   (first | subst eo31 | (injection eo31 with f1_ f2_ f3_; have f4_ := f1_.symm; have f5_ := f3_.symm; clear f1_ f2_ f3_; subst f4_; subst f5_))
   refine hK.out _ _ ⟨bc BK5012 0, bc BK5012 1, bc BK5012 2, bc BK5012 3, bc BK5001 0, bc BK5001 1, bc BK5001 2, bc BK5001 3⟩ (fun hHeld => ?_)
   clear hK K
   refine nrmE (some 22) ?_
   refine oneE 10 (some 23) HT_ (fun K hK => ?_)
   refine goes_ Tryd.func15 (by kernel_rfl) rfl #[.agg #[.slice Ao29 t5026.length co29, .slice Ao30 t5029.length co30, .slice Ao31 t5032.length co31, .bool t5035]] (by rfl) rfl rfl goB ?_
   with_reducible refine (customsref08_FormatGood.calls k _ _ t5026 _ _ t5029 _ _ t5032 t5035 t5036 _ ?side1 ?side2 ?side3 ?side4 ?side5 ?side6 A20.out).mono ?_
   (case side1 => exact Kd.C_ext (Kd.V_reads' HO5028.out).2.2)
   (case side2 => exact (Kd.V_reads' HO5028.out).2.1)
   (case side3 => exact Kd.C_ext (Kd.V_reads' HO5031.out).2.2)
   (case side4 => exact (Kd.V_reads' HO5031.out).2.1)
   (case side5 => exact Kd.C_ext (Kd.V_reads' HO5034.out).2.2)
   (case side6 => exact (Kd.V_reads' HO5034.out).2.1)
   rintro e w32 ⟨rfl, hb⟩
   refine ⟨_, rfl, ?_⟩
   replace HO5004 := mvR HO5004 hb
   replace HO5007 := mvR HO5007 hb
   replace HO5010 := mvN HO5010 hb
   replace HO5017 := mvV HO5017 hb
   replace HO5020 := mvV HO5020 hb
   replace HO5023 := mvV HO5023 hb
   replace HO5028 := mvV HO5028 hb
   replace HO5031 := mvV HO5031 hb
   replace HO5034 := mvV HO5034 hb
   replace BK5001 := mvB BK5001 hb
   replace BK5012 := mvB BK5012 hb
   replace HB := mvH HB hb
   (try clear hb)
   (try clear hb2)
   (try clear hk)
   (try clear hi)
   refine hK.out _ _ ⟨bc BK5012 0, bc BK5012 1, bc BK5012 2, bc BK5012 3, bc BK5001 0, bc BK5001 1, bc BK5001 2, bc BK5001 3⟩ (fun hHeld => ?_)
   clear hK K
   refine nrmE (some 23) ?_
   refine purE 11 (some 24) HT_ ?_
   refine purE 12 (some 25) HT_ ?_
   refine done_ (done_of HT_.out (by kernel_rfl)) ?_
   try go_wp2
   go_meet
   case rel => exact ⟨_, ((t5025.toList != t5036.toList)), rls, H', ⟨by first | omega | exact Nat.le_refl _⟩, ⟨Kd.R_ext HO5004.out⟩, ⟨Kd.R_ext HO5007.out⟩, ⟨Kd.N_ext (Kd.N_mono HO5010.out (fun _ hk => ⟨hk.1.1, ⟨hk.1.2.1, hk.2⟩⟩))⟩, ⟨blk_ext BK5012.out⟩, ⟨below_extB HB.out⟩⟩
  ·
   rw [if_neg c16] at H
   have c16b0 : (t5013.toList == t5014.toList) = false := beq_eq_false_iff_ne.mpr c16
   have c16b1 : (t5013.toList != t5014.toList) = true := bne_iff_ne.mpr c16
   (first | rw [c16b0] | (simp only [i64_w, i32_w]; rw [c16b0]) | rw [c16b1] | skip)
   have H' := Aside0.mk H
   clear H
   try go_wp2
   replace HO5004 := Aside0.mk (Kd.R_drew HO5004.out)
   replace HO5007 := Aside0.mk (Kd.R_drew HO5007.out)
   replace HO5010 := Aside0.mk (Kd.N_drew HO5010.out)
   replace BK5001 := Aside0.mk (blk_drew BK5001.out)
   replace BK5012 := Aside0.mk (blk_drew BK5012.out)
   replace HB := Aside0.mk (below_drew1 HB.out)
   refine start_ (n := 13) (S := fun w' => w'.cell? ⟨gb5012, 0, none⟩ = some (.slice Ao9 t5002.length co9) ∧ w'.cell? ⟨gb5012, 1, none⟩ = some (.slice Ao12 t5005.length co12) ∧ w'.cell? ⟨gb5012, 2, none⟩ = some (.slice Ao13 t5008.length co13) ∧ w'.cell? ⟨gb5012, 3, none⟩ = some (.bool t5011)) (ds := []) #[false, false, false, false, false, false, false, false, false, false, false, false, false] (by kernel_rfl) rfl rfl ⟨bc BK5012 0, bc BK5012 1, bc BK5012 2, bc BK5012 3⟩ (fun hHeld => ?_); refine with_tabW customslaw08_GoodsFormat.tab3 customslaw08_GoodsFormat.bits3 (fun HT_ HW_ => ?_)
   generalize w14.drew = w33 at HO5004 HO5007 HO5010 BK5001 BK5012 HB hHeld ⊢
   refine purE 0 (some 13) HT_ ?_
   refine tkE 1 (some 14) HT_ HW_ hHeld ?_ (hy := by rintro w' ⟨s0, s1, s2, s3⟩; go_simp; with_reducible rfl)
   refine oneE 2 (some 15) HT_ (fun K hK => ?_)
   refine goes_ Tryd.func15 (by kernel_rfl) rfl #[.agg #[.slice Ao9 t5002.length co9, .slice Ao12 t5005.length co12, .slice Ao13 t5008.length co13, .bool t5011]] (by rfl) rfl rfl goB ?_
   with_reducible refine (customsref08_FormatGood.calls k _ _ t5002 _ _ t5005 _ _ t5008 t5011 t5014 _ ?side1 ?side2 ?side3 ?side4 ?side5 ?side6 A15.out).mono ?_
   (case side1 => exact Kd.C_ext (Kd.R_reads' HO5004.out).2.2)
   (case side2 => exact (Kd.R_reads' HO5004.out).2.1)
   (case side3 => exact Kd.C_ext (Kd.R_reads' HO5007.out).2.2)
   (case side4 => exact (Kd.R_reads' HO5007.out).2.1)
   (case side5 => exact Kd.C_ext (Kd.N_reads' HO5010.out).2.2)
   (case side6 => exact (Kd.N_reads' HO5010.out).2.1)
   rintro e w34 ⟨rfl, hb⟩
   refine ⟨_, rfl, ?_⟩
   replace HO5004 := mvR HO5004 hb
   replace HO5007 := mvR HO5007 hb
   replace HO5010 := mvN HO5010 hb
   replace BK5001 := mvB BK5001 hb
   replace BK5012 := mvB BK5012 hb
   replace HB := mvH HB hb
   (try clear hb)
   (try clear hb2)
   (try clear hk)
   (try clear hi)
   refine hK.out _ _ ⟨bc BK5012 0, bc BK5012 1, bc BK5012 2, bc BK5012 3⟩ (fun hHeld => ?_)
   clear hK K
   refine nrmE (some 15) ?_
   refine purE 3 (some 16) HT_ ?_
   refine purE 4 (some 17) HT_ ?_
   refine purU 5 (some 18) HT_ ?_
   refine purU 6 (some 19) HT_ ?_
   refine purU 7 (some 20) HT_ ?_
   refine purU 8 (some 21) HT_ ?_
   refine purU 9 (some 22) HT_ ?_
   refine purU 10 (some 23) HT_ ?_
   refine purU 11 (some 24) HT_ ?_
   refine purE 12 (some 25) HT_ ?_
   refine done_ (done_of HT_.out (by kernel_rfl)) ?_
   try go_wp2
   go_meet
   case rel => exact ⟨_, (true), rls, H', ⟨by first | omega | exact Nat.le_refl _⟩, ⟨Kd.R_ext HO5004.out⟩, ⟨Kd.R_ext HO5007.out⟩, ⟨Kd.N_ext (Kd.N_mono HO5010.out (fun _ hk => ⟨hk.1.1, ⟨hk.1.2.1, hk.2⟩⟩))⟩, ⟨blk_ext BK5012.out⟩, ⟨below_extB HB.out⟩⟩
 case rest =>
  clear HC5
  try clear c1
  try clear p2
  try clear c5
  try clear c8
  try clear c9
  try clear c10
  try clear c14
  try clear c15
  try clear c16
  try clear c16b0
  try clear c16b1
  try clear hcz11_0 hcz11_1 hcz11_2 hcz11_3
  try clear hfz11_0 hfz11_1 hfz11_2 hfz11_3
  obtain ⟨kq, x25_4, rfl, HA, HJ4, HO_5013000, HO_5013001, HO_5013002, BK5012, HB⟩ := hcut
  cases kq with
  | zero => exact absurd HA.out (by simp [customslaw08_GoodsFormat.j0])
  | succ kj4 =>
   have H := HA.out
   clear HA
   simp only [customslaw08_GoodsFormat.j0] at H
   by_cases c35 : x25_4 = true
   ·
    subst c35
    have H1 : (none) = some r := by rw [if_pos rfl] at H; exact H
    clear H
    have H := H1
    clear H1
    exact absurd H (by simp)
   ·
    replace c35 := Bool.eq_false_iff.mpr c35
    subst c35
    have H1 : ((goods_Parse.f kj4 t5013).bind fun bt5037 => (if bt5037.2.2.2.2 = 0 then ((customsref08_SameGood.f kj4 bt5037.1 bt5037.2.1 bt5037.2.2.1 bt5037.2.2.2.1 t5002 t5005 t5008 t5011).bind fun t5049 => (if t5049 = true then ((customslaw08_awake.f kj4).bind fun t5050 => (some t5050)) else (none))) else (none))) = some r := by rw [if_neg (show ¬ (false = true) by decide)] at H; exact H
    clear H
    have H := H1
    clear H1
    replace H := Option.bind_eq_some_iff.mp H
    obtain ⟨⟨t5037, t5040, t5043, t5046, t5047⟩, A360, H⟩ := H
    try dsimp only at H
    have A36 := Aside0.mk A360
    clear A360
    by_cases c37 : t5047 = 0
    ·
     rw [if_pos c37] at H
     have c37b0 : (t5047 == 0) = true := beq_iff_eq.mpr c37
     have c37b1 : (t5047 != 0) = false := bne_eq_false_iff_eq.mpr c37
     clear c37
     replace H := Option.bind_eq_some_iff.mp H
     obtain ⟨t5049, A380, H⟩ := H
     try dsimp only at H
     have A38 := Aside0.mk A380
     clear A380
     by_cases c39 : t5049 = true
     ·
      subst c39
      have H1 : ((customslaw08_awake.f kj4).bind fun t5050 => (some t5050)) = some r := by rw [if_pos rfl] at H; exact H
      clear H
      have H := H1
      clear H1
      replace H := Option.bind_eq_some_iff.mp H
      obtain ⟨t5050, A400, H⟩ := H
      try dsimp only at H
      have A40 := Aside0.mk A400
      clear A400
      obtain rfl := Option.some.inj H
      go_wp2_with (first | ((with_reducible refine gate_callee (f := 16) rfl ?_); refine goesL_ (some 28) rfl rfl Tryd.func16 (by kernel_rfl) rfl #[.string t5013] rfl goA ?_; (with_reducible refine (goods_Parse.calls kj4 t5013 t5037 t5040 t5043 t5046 t5047 _ A36.out ?side1).mono ?_); (case side1 => exact GL.below HG.out (below_extB HB.out)); rintro e w41 ⟨v5038, v5041, v5044, rfl, ho0, ho1, ho2, hb⟩; refine ⟨_, rfl, ?_⟩; have HO5039 := Aside0.mk (Kd.R_lower (Kd.R_new' (Kd.R_mono (ok' := fun k_ => True) ho0 (fun _ hk_ => trivial)) (Kd.R_lt (Kd.R_ext HO_5013000.out))) (below_size (below_extB HB.out))); have HO5042 := Aside0.mk (Kd.R_lower (Kd.R_new' (Kd.R_mono (ok' := fun k_ => True) ho1 (fun _ hk_ => trivial)) (Kd.R_lt (Kd.R_ext HO_5013001.out))) (below_size (below_extB HB.out))); have HO5045 := Aside0.mk (Kd.N_lower (Kd.N_mono (ok' := fun k_ => some k_ ≠ (v5038 : Value).ownBlock ∧ some k_ ≠ (v5041 : Value).ownBlock ∧ some k_ ≠ (.slice Ao9 t5002.length co9 : Value).ownBlock ∧ some k_ ≠ (.slice Ao12 t5005.length co12 : Value).ownBlock ∧ some k_ ≠ (.slice Ao13 t5008.length co13 : Value).ownBlock ∧ k_ ≠ gb5012) ho2 (fun k_ hk_ => ⟨hk_.2.1, hk_.2.2, (Kd.fresh' (Kd.R_lt (Kd.R_ext HO_5013000.out)) k_ hk_.1), (Kd.fresh' (Kd.R_lt (Kd.R_ext HO_5013001.out)) k_ hk_.1), (Kd.fresh' (Kd.N_lt (Kd.N_ext HO_5013002.out)) k_ hk_.1), (Kd.freshB (blk_ext BK5012.out) k_ hk_.1)⟩)) (below_size (below_extB HB.out))); replace HO_5013000 := apR HO_5013000 hb (Kd.R_base ho0); replace HO_5013001 := apR HO_5013001 hb (Kd.R_base ho1); replace HO_5013002 := tdN3 HO_5013002 hb (Kd.R_base ho0) (Kd.R_base ho1) (Kd.N_base ho2); replace BK5012 := mvB BK5012 hb; replace HB := mvH HB hb; (try clear hb); (try clear hb2); (try clear hk); (try clear hi); (try clear ho0); (try clear ho1); (try clear ho2)) | ((with_reducible refine gate_dst (N := 7) rfl ?_); refine box_event ?hg (N := 7) ?hd (cs := #[.slice none 0 0, .slice none 0 0, .slice none 0 0, .bool false]) (t := 26) ?hr ?_; (case hd => rfl); (case hg => rfl); (case hr => exact goR); intro gb5048 hg w42 hbox hb; have BK5048 := Aside0.mk (hbox); have GW5048 := gwB hg HB; have GE5048 := GW5048; have NB5012_5048 := nbL hg BK5012; have NB5048_5012 := nbR hg BK5012; have GI5048 := GE_.mk GE5048.out; have NI5012_5048 := NE_.mk NB5012_5048.out; have NI5048_5012 := NE_.mk NB5048_5012.out; replace HO_5013000 := mvR HO_5013000 hb; replace HO_5013001 := mvR HO_5013001 hb; replace HO_5013002 := awN HO_5013002 hb gb5048 hg; replace HO5039 := mvR HO5039 hb; replace HO5042 := mvR HO5042 hb; replace HO5045 := awN HO5045 hb gb5048 hg; replace BK5012 := mvB BK5012 hb; replace HB := mvH HB hb; clear hb hbox hg; obtain ⟨Ao43, co43, eo43⟩ := Kd.R_slice HO5039.out; subst eo43; have hnb44 := NB5048_5012.out; have hnc44 := NB5012_5048.out; obtain ⟨hcz45_0, hcz45_1, hcz45_2, hcz45_3, hfz45_0, hfz45_1, hfz45_2, hfz45_3⟩ := bk4 BK5048.out; obtain ⟨Ao46, co46, eo46⟩ := Kd.R_slice HO5042.out; subst eo46; obtain ⟨Ao47, co47, eo47⟩ := Kd.N_slice HO5045.out; subst eo47; obtain ⟨hcz48_0, hcz48_1, hcz48_2, hcz48_3, hfz48_0, hfz48_1, hfz48_2, hfz48_3⟩ := bk4 BK5012.out) | (go_at_call 17; (with_reducible refine (customsref08_SameGood.calls kj4 _ _ t5037 _ _ t5040 _ _ t5043 t5046 _ _ t5002 _ _ t5005 _ _ t5008 t5011 true _ ?side1 ?side2 ?side3 ?side4 ?side5 ?side6 ?side7 ?side8 ?side9 ?side10 ?side11 ?side12 A38.out).mono ?_); (case side1 => refine (Kd.R_reads' (e := 9) (base := w.heap.size) (ok := fun k_ => (True ∧ some k_ ≠ (.slice Ao9 t5002.length co9 : Value).ownBlock)) (n := t5037.length) (c := co43) ?_).2.2; exact (Kd.R_ext ((Kd.R_mono (Kd.R_far (p := ⟨gb5048, 3, none⟩) (Kd.R_far (p := ⟨gb5048, 2, none⟩) (Kd.R_far (p := ⟨gb5048, 1, none⟩) (Kd.R_far (p := ⟨gb5048, 0, none⟩) (Kd.R_types HO5039.out BK5048.out (by decide)) (fun _ hk => hk.2) (.slice Ao43 t5037.length co43)) (fun _ hk => hk.2) (.slice Ao46 t5040.length co46)) (fun _ hk => hk.2) (.slice Ao47 t5043.length co47)) (fun _ hk => hk.2) (.bool t5046)) (fun _ h_ => h_.1))))); (case side2 => exact (Kd.R_reads' HO5039.out).2.1); (case side3 => refine (Kd.R_reads' (e := 36) (base := w.heap.size) (ok := fun k_ => (True ∧ some k_ ≠ (.slice Ao12 t5005.length co12 : Value).ownBlock)) (n := t5040.length) (c := co46) ?_).2.2; exact (Kd.R_ext ((Kd.R_mono (Kd.R_far (p := ⟨gb5048, 3, none⟩) (Kd.R_far (p := ⟨gb5048, 2, none⟩) (Kd.R_far (p := ⟨gb5048, 1, none⟩) (Kd.R_far (p := ⟨gb5048, 0, none⟩) (Kd.R_types HO5042.out BK5048.out (by decide)) (fun _ hk => hk.2) (.slice Ao43 t5037.length co43)) (fun _ hk => hk.2) (.slice Ao46 t5040.length co46)) (fun _ hk => hk.2) (.slice Ao47 t5043.length co47)) (fun _ hk => hk.2) (.bool t5046)) (fun _ h_ => h_.1))))); (case side4 => exact (Kd.R_reads' HO5042.out).2.1); (case side5 => refine (Kd.N_reads' (e := 38) (base := w.heap.size) (ok := fun k_ => ((some k_ ≠ (.slice Ao43 t5037.length co43 : Value).ownBlock ∧ (some k_ ≠ (.slice Ao46 t5040.length co46 : Value).ownBlock ∧ (some k_ ≠ (.slice Ao9 t5002.length co9 : Value).ownBlock ∧ (some k_ ≠ (.slice Ao12 t5005.length co12 : Value).ownBlock ∧ (some k_ ≠ (.slice Ao13 t5008.length co13 : Value).ownBlock ∧ k_ ≠ gb5012))))) ∧ k_ ≠ gb5048)) (n := t5043.length) (c := co47) ?_).2.2; exact (Kd.N_ext ((Kd.N_mono (Kd.N_far (p := ⟨gb5048, 3, none⟩) (Kd.N_far (p := ⟨gb5048, 2, none⟩) (Kd.N_far (p := ⟨gb5048, 1, none⟩) (Kd.N_far (p := ⟨gb5048, 0, none⟩) (Kd.N_mono HO5045.out (fun k_ hk => (⟨hk, hk.2⟩ : _ ∧ k_ ≠ gb5048))) (fun _ hk => hk.2) (.slice Ao43 t5037.length co43)) (fun _ hk => hk.2) (.slice Ao46 t5040.length co46)) (fun _ hk => hk.2) (.slice Ao47 t5043.length co47)) (fun _ hk => hk.2) (.bool t5046)) (fun _ h_ => h_.1))))); (case side6 => exact (Kd.N_reads' HO5045.out).2.1); (case side7 => refine (Kd.R_reads' (e := 9) (base := w.heap.size) (ok := fun k_ => (True ∧ some k_ ≠ (.slice Ao43 t5037.length co43 : Value).ownBlock)) (n := t5002.length) (c := co9) ?_).2.2; exact (Kd.R_ext ((Kd.R_mono (Kd.R_far (p := ⟨gb5048, 3, none⟩) (Kd.R_far (p := ⟨gb5048, 2, none⟩) (Kd.R_far (p := ⟨gb5048, 1, none⟩) (Kd.R_far (p := ⟨gb5048, 0, none⟩) (Kd.R_types HO_5013000.out BK5048.out (by decide)) (fun _ hk => hk.2) (.slice Ao43 t5037.length co43)) (fun _ hk => hk.2) (.slice Ao46 t5040.length co46)) (fun _ hk => hk.2) (.slice Ao47 t5043.length co47)) (fun _ hk => hk.2) (.bool t5046)) (fun _ h_ => h_.1))))); (case side8 => exact (Kd.R_reads' HO_5013000.out).2.1); (case side9 => refine (Kd.R_reads' (e := 36) (base := w.heap.size) (ok := fun k_ => (True ∧ some k_ ≠ (.slice Ao46 t5040.length co46 : Value).ownBlock)) (n := t5005.length) (c := co12) ?_).2.2; exact (Kd.R_ext ((Kd.R_mono (Kd.R_far (p := ⟨gb5048, 3, none⟩) (Kd.R_far (p := ⟨gb5048, 2, none⟩) (Kd.R_far (p := ⟨gb5048, 1, none⟩) (Kd.R_far (p := ⟨gb5048, 0, none⟩) (Kd.R_types HO_5013001.out BK5048.out (by decide)) (fun _ hk => hk.2) (.slice Ao43 t5037.length co43)) (fun _ hk => hk.2) (.slice Ao46 t5040.length co46)) (fun _ hk => hk.2) (.slice Ao47 t5043.length co47)) (fun _ hk => hk.2) (.bool t5046)) (fun _ h_ => h_.1))))); (case side10 => exact (Kd.R_reads' HO_5013001.out).2.1); (case side11 => refine (Kd.N_reads' (e := 38) (base := w.heap.size) (ok := fun k_ => (((((some k_ ≠ (.slice Ao9 t5002.length co9 : Value).ownBlock ∧ (some k_ ≠ (.slice Ao12 t5005.length co12 : Value).ownBlock ∧ k_ ≠ gb5012)) ∧ some k_ ≠ (.slice Ao43 t5037.length co43 : Value).ownBlock) ∧ some k_ ≠ (.slice Ao46 t5040.length co46 : Value).ownBlock) ∧ some k_ ≠ (.slice Ao47 t5043.length co47 : Value).ownBlock) ∧ k_ ≠ gb5048)) (n := t5008.length) (c := co13) ?_).2.2; exact (Kd.N_ext ((Kd.N_mono (Kd.N_far (p := ⟨gb5048, 3, none⟩) (Kd.N_far (p := ⟨gb5048, 2, none⟩) (Kd.N_far (p := ⟨gb5048, 1, none⟩) (Kd.N_far (p := ⟨gb5048, 0, none⟩) (Kd.N_mono HO_5013002.out (fun k_ hk => (⟨hk, hk.2⟩ : _ ∧ k_ ≠ gb5048))) (fun _ hk => hk.2) (.slice Ao43 t5037.length co43)) (fun _ hk => hk.2) (.slice Ao46 t5040.length co46)) (fun _ hk => hk.2) (.slice Ao47 t5043.length co47)) (fun _ hk => hk.2) (.bool t5046)) (fun _ h_ => h_.1))))); (case side12 => exact (Kd.N_reads' HO_5013002.out).2.1); rintro e w49 ⟨rfl, hb⟩; replace HO_5013000 := Aside0.mk (Kd.R_below (Kd.R_ext ((Kd.R_mono (Kd.R_far (p := ⟨gb5048, 3, none⟩) (Kd.R_far (p := ⟨gb5048, 2, none⟩) (Kd.R_far (p := ⟨gb5048, 1, none⟩) (Kd.R_far (p := ⟨gb5048, 0, none⟩) (Kd.R_types HO_5013000.out BK5048.out (by decide)) (fun _ hk => hk.2) (.slice Ao43 t5037.length co43)) (fun _ hk => hk.2) (.slice Ao46 t5040.length co46)) (fun _ hk => hk.2) (.slice Ao47 t5043.length co47)) (fun _ hk => hk.2) (.bool t5046)) (fun _ h_ => h_.1)))) hb); replace HO_5013001 := Aside0.mk (Kd.R_below (Kd.R_ext ((Kd.R_mono (Kd.R_far (p := ⟨gb5048, 3, none⟩) (Kd.R_far (p := ⟨gb5048, 2, none⟩) (Kd.R_far (p := ⟨gb5048, 1, none⟩) (Kd.R_far (p := ⟨gb5048, 0, none⟩) (Kd.R_types HO_5013001.out BK5048.out (by decide)) (fun _ hk => hk.2) (.slice Ao43 t5037.length co43)) (fun _ hk => hk.2) (.slice Ao46 t5040.length co46)) (fun _ hk => hk.2) (.slice Ao47 t5043.length co47)) (fun _ hk => hk.2) (.bool t5046)) (fun _ h_ => h_.1)))) hb); replace HO_5013002 := Aside0.mk (Kd.N_below (Kd.N_ext ((Kd.N_mono (Kd.N_far (p := ⟨gb5048, 3, none⟩) (Kd.N_far (p := ⟨gb5048, 2, none⟩) (Kd.N_far (p := ⟨gb5048, 1, none⟩) (Kd.N_far (p := ⟨gb5048, 0, none⟩) (Kd.N_mono HO_5013002.out (fun k_ hk => (⟨hk, hk.2⟩ : _ ∧ k_ ≠ gb5048))) (fun _ hk => hk.2) (.slice Ao43 t5037.length co43)) (fun _ hk => hk.2) (.slice Ao46 t5040.length co46)) (fun _ hk => hk.2) (.slice Ao47 t5043.length co47)) (fun _ hk => hk.2) (.bool t5046)) (fun _ h_ => h_.1)))) hb); replace HO5039 := Aside0.mk (Kd.R_below (Kd.R_ext ((Kd.R_mono (Kd.R_far (p := ⟨gb5048, 3, none⟩) (Kd.R_far (p := ⟨gb5048, 2, none⟩) (Kd.R_far (p := ⟨gb5048, 1, none⟩) (Kd.R_far (p := ⟨gb5048, 0, none⟩) (Kd.R_types HO5039.out BK5048.out (by decide)) (fun _ hk => hk.2) (.slice Ao43 t5037.length co43)) (fun _ hk => hk.2) (.slice Ao46 t5040.length co46)) (fun _ hk => hk.2) (.slice Ao47 t5043.length co47)) (fun _ hk => hk.2) (.bool t5046)) (fun _ h_ => h_.1)))) hb); replace HO5042 := Aside0.mk (Kd.R_below (Kd.R_ext ((Kd.R_mono (Kd.R_far (p := ⟨gb5048, 3, none⟩) (Kd.R_far (p := ⟨gb5048, 2, none⟩) (Kd.R_far (p := ⟨gb5048, 1, none⟩) (Kd.R_far (p := ⟨gb5048, 0, none⟩) (Kd.R_types HO5042.out BK5048.out (by decide)) (fun _ hk => hk.2) (.slice Ao43 t5037.length co43)) (fun _ hk => hk.2) (.slice Ao46 t5040.length co46)) (fun _ hk => hk.2) (.slice Ao47 t5043.length co47)) (fun _ hk => hk.2) (.bool t5046)) (fun _ h_ => h_.1)))) hb); replace HO5045 := Aside0.mk (Kd.N_below (Kd.N_ext ((Kd.N_mono (Kd.N_far (p := ⟨gb5048, 3, none⟩) (Kd.N_far (p := ⟨gb5048, 2, none⟩) (Kd.N_far (p := ⟨gb5048, 1, none⟩) (Kd.N_far (p := ⟨gb5048, 0, none⟩) (Kd.N_mono HO5045.out (fun k_ hk => (⟨hk, hk.2⟩ : _ ∧ k_ ≠ gb5048))) (fun _ hk => hk.2) (.slice Ao43 t5037.length co43)) (fun _ hk => hk.2) (.slice Ao46 t5040.length co46)) (fun _ hk => hk.2) (.slice Ao47 t5043.length co47)) (fun _ hk => hk.2) (.bool t5046)) (fun _ h_ => h_.1)))) hb); replace BK5012 := Aside0.mk (blk_below (blk_extC BK5012.out) hb); replace BK5048 := Aside0.mk (blk_below (g := gb5048) (o := .cells #[.slice Ao43 t5037.length co43, .slice Ao46 t5040.length co46, .slice Ao47 t5043.length co47, .bool t5046] 26 (0, 0)) (by (with_reducible repeat (first | refine blk_drewN ?_ _ | refine blk_drew ?_ | refine blk_alloc ?_ _)); refine blk_put (cs := #[.slice Ao43 t5037.length co43, .slice Ao46 t5040.length co46, .slice Ao47 t5043.length co47, .bool false]) ?_ 3 _ rfl; (with_reducible repeat (first | refine blk_drewN ?_ _ | refine blk_drew ?_ | refine blk_alloc ?_ _)); refine blk_put (cs := #[.slice Ao43 t5037.length co43, .slice Ao46 t5040.length co46, .slice none 0 0, .bool false]) ?_ 2 _ rfl; (with_reducible repeat (first | refine blk_drewN ?_ _ | refine blk_drew ?_ | refine blk_alloc ?_ _)); refine blk_put (cs := #[.slice Ao43 t5037.length co43, .slice none 0 0, .slice none 0 0, .bool false]) ?_ 1 _ rfl; (with_reducible repeat (first | refine blk_drewN ?_ _ | refine blk_drew ?_ | refine blk_alloc ?_ _)); refine blk_put (cs := #[.slice none 0 0, .slice none 0 0, .slice none 0 0, .bool false]) ?_ 0 _ rfl; exact blk_ext BK5048.out) hb); replace HB := mvH HB hb; (try clear hb); (try clear hb2); (try clear hk); (try clear hi)) | (go_at_call 13; (with_reducible refine (customslaw08_awake.calls kj4  t5050 _ A40.out ?side1).mono ?_); (case side1 => exact GL.below HG.out (below_extB HB.out)); rintro e w50 ⟨rfl, hb⟩; replace HO_5013000 := mvR HO_5013000 hb; replace HO_5013001 := mvR HO_5013001 hb; replace HO_5013002 := mvN HO_5013002 hb; replace HO5039 := mvR HO5039 hb; replace HO5042 := mvR HO5042 hb; replace HO5045 := mvN HO5045 hb; replace BK5012 := mvB BK5012 hb; replace BK5048 := mvB BK5048 hb; replace HB := mvH HB hb; (try clear hb); (try clear hb2); (try clear hk); (try clear hi)))
      go_ret
      exact ⟨by first | rfl | (simp [errW_none, errW_some] <;> rfl) | (simp [*, errW_none, errW_some] <;> rfl), below_extB HB.out⟩
     ·
      replace c39 := Bool.eq_false_iff.mpr c39
      subst c39
      have H1 : (none) = some r := by rw [if_neg (show ¬ (false = true) by decide)] at H; exact H
      clear H
      have H := H1
      clear H1
      exact absurd H (by simp)
    ·
     rw [if_neg c37] at H
     exact absurd H (by simp)

end Go.Proofs.YtoolggpfgadjlaaDoor.Z
