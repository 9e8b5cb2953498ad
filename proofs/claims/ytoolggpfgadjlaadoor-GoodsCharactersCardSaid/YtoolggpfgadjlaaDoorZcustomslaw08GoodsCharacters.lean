/- Written by a program of this session: each Go function as a plain Lean function, and that the machine's call does what it says. Conditions: none but those each theorem states. -/
import Derived.Test.YtoolggpfgadjlaaDoorZ0
import Derived.Test.YtoolggpfgadjlaaDoorZcustomsmadeGood
import Derived.Test.YtoolggpfgadjlaaDoorZgoodsCharacters
import Derived.Test.YtoolggpfgadjlaaDoorZcustomslaw08awake
import Derived.Test.YtoolggpfgadjlaaDoorZcustomsref08SameParts
import Derived.Test.YtoolggpfgadjlaaDoorZcustomsref08Characters
namespace Go.Proofs.YtoolggpfgadjlaaDoor.Z
open Go.RowKit Go.Proofs.YtoolggpfgadjlaaDoorW.PrintWords Go.Proofs.YtoolggpfgadjlaaDoorW.PrintLast Go.Proofs.YtoolggpfgadjlaaDoorW.PrintMore
attribute [local go_sem high] str_leq str_geq str_gtr   -- strings
attribute [local go_sem] max2_int min2_int max_two min_two max_three min_three max_four min_four   -- for this text's walks alone
set_option linter.unusedVariables false
set_option linter.unusedSimpArgs false

/-! ### customslaw08_GoodsCharacters: function 7 -/
def customslaw08_GoodsCharacters.l0 : Nat → List (S38) → Int → Int → List ByteArray → List (S36) → List (S38) → Bool → Option (Bool)
 | 0, _, _, _, _, _, _, _ => none
 | k + 1, x4, x5, x6, x7012000, x7012001, x7012002, x7012003 => if x6 < (x4.length : Int) then (if 0 ≤ x6 then (if x6 > 0 then (if 0 ≤ (wrap64 (x6 - 1)) then (if (wrap64 (x6 - 1)) < (x4.length : Int) then (if ((rd_T38 x4 (wrap64 (x6 - 1))).f1) < ((rd_T38 x4 x6).f1) then (none) else (customslaw08_GoodsCharacters.l0 k x4 (wrap64 (x5 + ((rd_T38 x4 x6).f1))) (wrap64 (x6 + 1)) x7012000 x7012001 x7012002 x7012003)) else (none)) else (none)) else (customslaw08_GoodsCharacters.l0 k x4 (wrap64 (x5 + ((rd_T38 x4 x6).f1))) (wrap64 (x6 + 1)) x7012000 x7012001 x7012002 x7012003)) else (none)) else (if x5 = 1000000 then ((customslaw08_awake.f k).bind fun t7022 => (some t7022)) else (if (x4.length : Int) = 0 then (if (wrap64 ((x7012001.length : Int) + (x7012002.length : Int))) = 0 then ((customslaw08_awake.f k).bind fun t7023 => (some t7023)) else (none)) else (none)))
def customslaw08_GoodsCharacters.f (k : Nat) (l0 : List Int) : Option (Bool) := (customsmade_Good.f k l0).bind fun bt7001 => ((goods_Characters.f k bt7001.1 bt7001.2.1 bt7001.2.2.1 bt7001.2.2.2).bind fun t7012 => ((customsref08_Characters.f k bt7001.1 bt7001.2.1 bt7001.2.2.1 bt7001.2.2.2).bind fun t7015 => ((customsref08_SameParts.f k t7012 t7015).bind fun t7018 => (if t7018 = true then (customslaw08_GoodsCharacters.l0 k t7012 0 0 bt7001.1 bt7001.2.1 bt7001.2.2.1 bt7001.2.2.2) else (none)))))
theorem customslaw08_GoodsCharacters.mono_l : ∀ k, (∀ y0 y1 y2 y3 y4 y5 y6, LeO (customslaw08_GoodsCharacters.l0 k y0 y1 y2 y3 y4 y5 y6) (customslaw08_GoodsCharacters.l0 (k + 1) y0 y1 y2 y3 y4 y5 y6))
 | 0 => fun _ _ _ _ _ _ _ r h => by simp [customslaw08_GoodsCharacters.l0] at h
 | k + 1 => by
  have ih0 := customslaw08_GoodsCharacters.mono_l k
  ·
   intro y0 y1 y2 y3 y4 y5 y6
   unfold customslaw08_GoodsCharacters.l0
   repeat' first
   | (with_reducible exact ih0 _ _ _ _ _ _ _)
   | (with_reducible exact customslaw08_awake.mono _)
   | (with_reducible exact customsmade_Good.mono _ _)
   | (with_reducible exact customsref08_Characters.mono _ _ _ _ _)
   | (with_reducible exact customsref08_SameParts.mono _ _ _)
   | (with_reducible exact goods_Characters.mono _ _ _ _ _)
   | (with_reducible exact LeO.refl _)
   | (with_reducible exact LeO.none _)
   | (with_reducible refine LeO.ite ?_ ?_)
   | (with_reducible refine LeO.bind ?_ (fun _ => ?_))
   | exact ih0 _ _ _ _ _ _ _
   | exact customslaw08_awake.mono _
   | exact customsmade_Good.mono _ _
   | exact customsref08_Characters.mono _ _ _ _ _
   | exact customsref08_SameParts.mono _ _ _
   | exact goods_Characters.mono _ _ _ _ _
   | exact LeO.none _
   | refine LeO.ite ?_ ?_
   | refine LeO.bind ?_ (fun _ => ?_)
theorem customslaw08_GoodsCharacters.mono : ∀ a0 k, LeO (customslaw08_GoodsCharacters.f k a0) (customslaw08_GoodsCharacters.f (k + 1) a0) := by
 intro a0 k
 have ih0 := customslaw08_GoodsCharacters.mono_l k
 unfold customslaw08_GoodsCharacters.f
 repeat' first
   | (with_reducible exact ih0 _ _ _ _ _ _ _)
   | (with_reducible exact customslaw08_awake.mono _)
   | (with_reducible exact customsmade_Good.mono _ _)
   | (with_reducible exact customsref08_Characters.mono _ _ _ _ _)
   | (with_reducible exact customsref08_SameParts.mono _ _ _)
   | (with_reducible exact goods_Characters.mono _ _ _ _ _)
   | (with_reducible exact LeO.refl _)
   | (with_reducible exact LeO.none _)
   | (with_reducible refine LeO.ite ?_ ?_)
   | (with_reducible refine LeO.bind ?_ (fun _ => ?_))
   | exact ih0 _ _ _ _ _ _ _
   | exact customslaw08_awake.mono _
   | exact customsmade_Good.mono _ _
   | exact customsref08_Characters.mono _ _ _ _ _
   | exact customsref08_SameParts.mono _ _ _
   | exact goods_Characters.mono _ _ _ _ _
   | exact LeO.none _
   | refine LeO.ite ?_ ?_
   | refine LeO.bind ?_ (fun _ => ?_)
set_option maxHeartbeats 8000000 in
set_option maxRecDepth 100000 in
theorem customslaw08_GoodsCharacters.calls (k : Nat) (A0 : Option Addr) (c0 : Nat) (l0 : List Int) (r : Bool) (w : World) (hr0 : Kd.C (Kd.int .i64) w A0 l0.length l0) (hc0 : l0.length ≤ c0) (h : customslaw08_GoodsCharacters.f k l0 = some r) (hG : GL w) :
  Calls Tryd.prog 7 #[.slice A0 l0.length c0] w fun e w' => e = .returned (.bool r) ∧ Below w.heap.size w w' := by
 have hu26 := Tryd.underlying26
 have HR0 := Aside0.mk hr0
 have HC0 := Aside0.mk hc0
 clear hr0 hc0
 have HB := Aside0.mk (Below.refl w.heap.size w)
 have H : ((customsmade_Good.f k l0).bind fun bt7001 => ((goods_Characters.f k bt7001.1 bt7001.2.1 bt7001.2.2.1 bt7001.2.2.2).bind fun t7012 => ((customsref08_Characters.f k bt7001.1 bt7001.2.1 bt7001.2.2.1 bt7001.2.2.2).bind fun t7015 => ((customsref08_SameParts.f k t7012 t7015).bind fun t7018 => (if t7018 = true then (customslaw08_GoodsCharacters.l0 k t7012 0 0 bt7001.1 bt7001.2.1 bt7001.2.2.1 bt7001.2.2.2) else (none)))))) = some r := h
 clear h
 have HG := Aside0.mk hG
 clear hG
 replace H := Option.bind_eq_some_iff.mp H
 obtain ⟨⟨t7001, t7004, t7007, t7010⟩, A20, H⟩ := H
 try dsimp only at H
 have A2 := Aside0.mk A20
 clear A20
 replace H := Option.bind_eq_some_iff.mp H
 obtain ⟨t7012, A30, H⟩ := H
 try dsimp only at H
 have A3 := Aside0.mk A30
 clear A30
 replace H := Option.bind_eq_some_iff.mp H
 obtain ⟨t7015, A40, H⟩ := H
 try dsimp only at H
 have A4 := Aside0.mk A40
 clear A40
 replace H := Option.bind_eq_some_iff.mp H
 obtain ⟨t7018, A50, H⟩ := H
 try dsimp only at H
 have A5 := Aside0.mk A50
 clear A50
 by_cases c6 : t7018 = true
 ·
  subst c6
  have H1 : (customslaw08_GoodsCharacters.l0 k t7012 0 0 t7001 t7004 t7007 t7010) = some r := by rw [if_pos rfl] at H; exact H
  clear H
  have H := H1
  clear H1
  have H' := Aside0.mk H
  clear H
  go_enter Tryd.func7, Tryd.ntmps7
  go_wp2_with (first | (go_at_call 9; (with_reducible refine (customsmade_Good.calls k _ _ l0 t7001 t7004 t7007 t7010 _ ?side1 ?side2 A2.out).mono ?_); (case side1 => repeat (first | exact HR0.out | (with_reducible refine Kd.C_alloc ?_ _) | (with_reducible refine Kd.C_drewN ?_ _) | (with_reducible refine Kd.C_drew ?_))); (case side2 => exact HC0.out); rintro e w7 ⟨v7002, v7005, v7008, rfl, ho0, ho1, ho2, hb⟩; have n0_ := Aside0.mk (Kd.R_lower (Kd.R_mono (ok' := fun k_ => True) ho0 (fun _ hk_ => trivial)) (below_size (below_ext HB.out))); have n1_ := Aside0.mk (Kd.R_lower (Kd.R_mono (ok' := fun k_ => True) ho1 (fun _ hk_ => trivial)) (below_size (below_ext HB.out))); have n2_ := Aside0.mk (Kd.N_lower (Kd.N_mono (ok' := fun k_ => some k_ ≠ (v7002 : Value).ownBlock ∧ some k_ ≠ (v7005 : Value).ownBlock) ho2 (fun k_ hk_ => ⟨hk_.2.1, hk_.2.2⟩)) (below_size (below_ext HB.out))); have HO7003 := n0_; have HO7006 := n1_; have HO7009 := n2_; replace HB := mvH HB hb; clear n0_ n1_ n2_; (try clear hb); (try clear hb2); (try clear hk); (try clear hi); (try clear ho0); (try clear ho1); (try clear ho2)) | ((with_reducible refine gate_dst (N := 3) rfl ?_); (try (refine gate_guard (by rfl) ?_; dsimp only)); refine box_event ?hg (N := 3) ?hd (cs := #[.slice none 0 0, .slice none 0 0, .slice none 0 0, .bool false]) (t := 26) ?hr ?_; (case hd => rfl); (case hg => rfl); (case hr => first | (go_simp; done) | (go_simp; rfl)); intro gb7011 hg w8 hbox hb; have n4_ := Aside0.mk (hbox); have n5_ := Aside0.mk ((by rw [hg]; exact (below_size (below_ext HB.out)) : w.heap.size ≤ gb7011)); have n6_ := Aside0.mk ((by rw [hg]; exact (below_size (below_ext HB.out)) : w.heap.size ≤ gb7011)); have BK7011 := n4_; have GW7011 := n5_; have GE7011 := n6_; have GI7011 := GE_.mk GE7011.out; replace HO7003 := mvR HO7003 hb; replace HO7006 := mvR HO7006 hb; replace HO7009 := awN HO7009 hb gb7011 hg; replace HB := mvH HB hb; clear n4_ n5_ n6_; clear hb hbox hg; obtain ⟨Ao9, co9, eo9⟩ := Kd.R_slice HO7003.out; subst eo9; have hcz10_0 : w8.cell? ⟨gb7011, 0, none⟩ = some (.slice none 0 0) := (blk_cell BK7011.out 0).trans rfl; have hcz10_1 : w8.cell? ⟨gb7011, 1, none⟩ = some (.slice none 0 0) := (blk_cell BK7011.out 1).trans rfl; have hcz10_2 : w8.cell? ⟨gb7011, 2, none⟩ = some (.slice none 0 0) := (blk_cell BK7011.out 2).trans rfl; have hcz10_3 : w8.cell? ⟨gb7011, 3, none⟩ = some (.bool false) := (blk_cell BK7011.out 3).trans rfl; have hfz10_0 := blk_frozen BK7011.out 0; have hfz10_1 := blk_frozen BK7011.out 1; have hfz10_2 := blk_frozen BK7011.out 2; have hfz10_3 := blk_frozen BK7011.out 3; obtain ⟨Ao11, co11, eo11⟩ := Kd.R_slice HO7006.out; subst eo11; obtain ⟨Ao12, co12, eo12⟩ := Kd.N_slice HO7009.out; subst eo12) | (go_at_call 19; (with_reducible refine (goods_Characters.calls k _ _ t7001 _ _ t7004 _ _ t7007 t7010 t7012 _ ?side1 ?side2 ?side3 ?side4 ?side5 ?side6 A3.out).mono ?_); (case side1 => refine (Kd.R_reads' (e := 9) (base := w.heap.size) (ok := fun k_ => True) (n := t7001.length) (c := co9) ?_).2.2; exact (Kd.R_ext ((Kd.R_mono (Kd.R_far (p := ⟨gb7011, 3, none⟩) (Kd.R_far (p := ⟨gb7011, 2, none⟩) (Kd.R_far (p := ⟨gb7011, 1, none⟩) (Kd.R_far (p := ⟨gb7011, 0, none⟩) (Kd.R_types HO7003.out BK7011.out (by decide)) (fun _ hk => hk.2) (.slice Ao9 t7001.length co9)) (fun _ hk => hk.2) (.slice Ao11 t7004.length co11)) (fun _ hk => hk.2) (.slice Ao12 t7007.length co12)) (fun _ hk => hk.2) (.bool t7010)) (fun _ h_ => h_.1))))); (case side2 => exact (Kd.R_reads' HO7003.out).2.1); (case side3 => refine (Kd.R_reads' (e := 36) (base := w.heap.size) (ok := fun k_ => True) (n := t7004.length) (c := co11) ?_).2.2; exact (Kd.R_ext ((Kd.R_mono (Kd.R_far (p := ⟨gb7011, 3, none⟩) (Kd.R_far (p := ⟨gb7011, 2, none⟩) (Kd.R_far (p := ⟨gb7011, 1, none⟩) (Kd.R_far (p := ⟨gb7011, 0, none⟩) (Kd.R_types HO7006.out BK7011.out (by decide)) (fun _ hk => hk.2) (.slice Ao9 t7001.length co9)) (fun _ hk => hk.2) (.slice Ao11 t7004.length co11)) (fun _ hk => hk.2) (.slice Ao12 t7007.length co12)) (fun _ hk => hk.2) (.bool t7010)) (fun _ h_ => h_.1))))); (case side4 => exact (Kd.R_reads' HO7006.out).2.1); (case side5 => refine (Kd.N_reads' (e := 38) (base := w.heap.size) (ok := fun k_ => ((some k_ ≠ (.slice Ao9 t7001.length co9 : Value).ownBlock ∧ some k_ ≠ (.slice Ao11 t7004.length co11 : Value).ownBlock) ∧ k_ ≠ gb7011)) (n := t7007.length) (c := co12) ?_).2.2; exact (Kd.N_ext ((Kd.N_mono (Kd.N_far (p := ⟨gb7011, 3, none⟩) (Kd.N_far (p := ⟨gb7011, 2, none⟩) (Kd.N_far (p := ⟨gb7011, 1, none⟩) (Kd.N_far (p := ⟨gb7011, 0, none⟩) (Kd.N_mono HO7009.out (fun k_ hk => (⟨hk, hk.2⟩ : _ ∧ k_ ≠ gb7011))) (fun _ hk => hk.2) (.slice Ao9 t7001.length co9)) (fun _ hk => hk.2) (.slice Ao11 t7004.length co11)) (fun _ hk => hk.2) (.slice Ao12 t7007.length co12)) (fun _ hk => hk.2) (.bool t7010)) (fun _ h_ => h_.1))))); (case side6 => exact (Kd.N_reads' HO7009.out).2.1); rintro e w13 ⟨v7013, rfl, ho0, hb⟩; have n0_ := Aside0.mk (Kd.R_below (Kd.R_ext ((Kd.R_mono (Kd.R_far (p := ⟨gb7011, 3, none⟩) (Kd.R_far (p := ⟨gb7011, 2, none⟩) (Kd.R_far (p := ⟨gb7011, 1, none⟩) (Kd.R_far (p := ⟨gb7011, 0, none⟩) (Kd.R_types HO7003.out BK7011.out (by decide)) (fun _ hk => hk.2) (.slice Ao9 t7001.length co9)) (fun _ hk => hk.2) (.slice Ao11 t7004.length co11)) (fun _ hk => hk.2) (.slice Ao12 t7007.length co12)) (fun _ hk => hk.2) (.bool t7010)) (fun _ h_ => h_.1)))) hb); have n1_ := Aside0.mk (Kd.R_below (Kd.R_ext ((Kd.R_mono (Kd.R_far (p := ⟨gb7011, 3, none⟩) (Kd.R_far (p := ⟨gb7011, 2, none⟩) (Kd.R_far (p := ⟨gb7011, 1, none⟩) (Kd.R_far (p := ⟨gb7011, 0, none⟩) (Kd.R_types HO7006.out BK7011.out (by decide)) (fun _ hk => hk.2) (.slice Ao9 t7001.length co9)) (fun _ hk => hk.2) (.slice Ao11 t7004.length co11)) (fun _ hk => hk.2) (.slice Ao12 t7007.length co12)) (fun _ hk => hk.2) (.bool t7010)) (fun _ h_ => h_.1)))) hb); have n2_ := Aside0.mk (Kd.N_elder' (Kd.N_ext ((Kd.N_mono (Kd.N_far (p := ⟨gb7011, 3, none⟩) (Kd.N_far (p := ⟨gb7011, 2, none⟩) (Kd.N_far (p := ⟨gb7011, 1, none⟩) (Kd.N_far (p := ⟨gb7011, 0, none⟩) (Kd.N_mono HO7009.out (fun k_ hk => (⟨hk, hk.2⟩ : _ ∧ k_ ≠ gb7011))) (fun _ hk => hk.2) (.slice Ao9 t7001.length co9)) (fun _ hk => hk.2) (.slice Ao11 t7004.length co11)) (fun _ hk => hk.2) (.slice Ao12 t7007.length co12)) (fun _ hk => hk.2) (.bool t7010)) (fun _ h_ => h_.1)))) (Kd.N_base ho0) hb); have n3_ := Aside0.mk (Kd.N_lower (Kd.N_mono (ok' := fun k_ => some k_ ≠ (.slice Ao9 t7001.length co9 : Value).ownBlock ∧ some k_ ≠ (.slice Ao11 t7004.length co11 : Value).ownBlock ∧ some k_ ≠ (.slice Ao12 t7007.length co12 : Value).ownBlock ∧ k_ ≠ gb7011) ho0 (fun k_ hk_ => ⟨(Kd.fresh' (Kd.R_lt (Kd.R_ext ((Kd.R_mono (Kd.R_far (p := ⟨gb7011, 3, none⟩) (Kd.R_far (p := ⟨gb7011, 2, none⟩) (Kd.R_far (p := ⟨gb7011, 1, none⟩) (Kd.R_far (p := ⟨gb7011, 0, none⟩) (Kd.R_types HO7003.out BK7011.out (by decide)) (fun _ hk => hk.2) (.slice Ao9 t7001.length co9)) (fun _ hk => hk.2) (.slice Ao11 t7004.length co11)) (fun _ hk => hk.2) (.slice Ao12 t7007.length co12)) (fun _ hk => hk.2) (.bool t7010)) (fun _ h_ => h_.1))))) k_ hk_), (Kd.fresh' (Kd.R_lt (Kd.R_ext ((Kd.R_mono (Kd.R_far (p := ⟨gb7011, 3, none⟩) (Kd.R_far (p := ⟨gb7011, 2, none⟩) (Kd.R_far (p := ⟨gb7011, 1, none⟩) (Kd.R_far (p := ⟨gb7011, 0, none⟩) (Kd.R_types HO7006.out BK7011.out (by decide)) (fun _ hk => hk.2) (.slice Ao9 t7001.length co9)) (fun _ hk => hk.2) (.slice Ao11 t7004.length co11)) (fun _ hk => hk.2) (.slice Ao12 t7007.length co12)) (fun _ hk => hk.2) (.bool t7010)) (fun _ h_ => h_.1))))) k_ hk_), (Kd.fresh' (Kd.N_lt (Kd.N_ext ((Kd.N_mono (Kd.N_far (p := ⟨gb7011, 3, none⟩) (Kd.N_far (p := ⟨gb7011, 2, none⟩) (Kd.N_far (p := ⟨gb7011, 1, none⟩) (Kd.N_far (p := ⟨gb7011, 0, none⟩) (Kd.N_mono HO7009.out (fun k_ hk => (⟨hk, hk.2⟩ : _ ∧ k_ ≠ gb7011))) (fun _ hk => hk.2) (.slice Ao9 t7001.length co9)) (fun _ hk => hk.2) (.slice Ao11 t7004.length co11)) (fun _ hk => hk.2) (.slice Ao12 t7007.length co12)) (fun _ hk => hk.2) (.bool t7010)) (fun _ h_ => h_.1))))) k_ hk_), (Kd.freshB (g := gb7011) (o := .cells #[.slice Ao9 t7001.length co9, .slice Ao11 t7004.length co11, .slice Ao12 t7007.length co12, .bool t7010] 26 (0, 0)) (by (with_reducible repeat (first | refine blk_drewN ?_ _ | refine blk_drew ?_ | refine blk_alloc ?_ _)); refine blk_put (cs := #[.slice Ao9 t7001.length co9, .slice Ao11 t7004.length co11, .slice Ao12 t7007.length co12, .bool false]) ?_ 3 _ rfl; (with_reducible repeat (first | refine blk_drewN ?_ _ | refine blk_drew ?_ | refine blk_alloc ?_ _)); refine blk_put (cs := #[.slice Ao9 t7001.length co9, .slice Ao11 t7004.length co11, .slice none 0 0, .bool false]) ?_ 2 _ rfl; (with_reducible repeat (first | refine blk_drewN ?_ _ | refine blk_drew ?_ | refine blk_alloc ?_ _)); refine blk_put (cs := #[.slice Ao9 t7001.length co9, .slice none 0 0, .slice none 0 0, .bool false]) ?_ 1 _ rfl; (with_reducible repeat (first | refine blk_drewN ?_ _ | refine blk_drew ?_ | refine blk_alloc ?_ _)); refine blk_put (cs := #[.slice none 0 0, .slice none 0 0, .slice none 0 0, .bool false]) ?_ 0 _ rfl; exact blk_ext BK7011.out) k_ hk_)⟩)) (below_size (below_extB HB.out))); have n4_ := Aside0.mk (blk_below (g := gb7011) (o := .cells #[.slice Ao9 t7001.length co9, .slice Ao11 t7004.length co11, .slice Ao12 t7007.length co12, .bool t7010] 26 (0, 0)) (by (with_reducible repeat (first | refine blk_drewN ?_ _ | refine blk_drew ?_ | refine blk_alloc ?_ _)); refine blk_put (cs := #[.slice Ao9 t7001.length co9, .slice Ao11 t7004.length co11, .slice Ao12 t7007.length co12, .bool false]) ?_ 3 _ rfl; (with_reducible repeat (first | refine blk_drewN ?_ _ | refine blk_drew ?_ | refine blk_alloc ?_ _)); refine blk_put (cs := #[.slice Ao9 t7001.length co9, .slice Ao11 t7004.length co11, .slice none 0 0, .bool false]) ?_ 2 _ rfl; (with_reducible repeat (first | refine blk_drewN ?_ _ | refine blk_drew ?_ | refine blk_alloc ?_ _)); refine blk_put (cs := #[.slice Ao9 t7001.length co9, .slice none 0 0, .slice none 0 0, .bool false]) ?_ 1 _ rfl; (with_reducible repeat (first | refine blk_drewN ?_ _ | refine blk_drew ?_ | refine blk_alloc ?_ _)); refine blk_put (cs := #[.slice none 0 0, .slice none 0 0, .slice none 0 0, .bool false]) ?_ 0 _ rfl; exact blk_ext BK7011.out) hb); clear HO7003; clear HO7006; clear HO7009; clear BK7011; have HO7003 := n0_; have HO7006 := n1_; have HO7009 := n2_; have HO7014 := n3_; have BK7011 := n4_; replace HB := mvH HB hb; clear n0_ n1_ n2_ n3_ n4_; (try clear hb); (try clear hb2); (try clear hk); (try clear hi); (try clear ho0); have hcz14_0 : w13.cell? ⟨gb7011, 0, none⟩ = some (.slice Ao9 t7001.length co9) := (blk_cell BK7011.out 0).trans rfl; have hcz14_1 : w13.cell? ⟨gb7011, 1, none⟩ = some (.slice Ao11 t7004.length co11) := (blk_cell BK7011.out 1).trans rfl; have hcz14_2 : w13.cell? ⟨gb7011, 2, none⟩ = some (.slice Ao12 t7007.length co12) := (blk_cell BK7011.out 2).trans rfl; have hcz14_3 : w13.cell? ⟨gb7011, 3, none⟩ = some (.bool t7010) := (blk_cell BK7011.out 3).trans rfl; have hfz14_0 := blk_frozen BK7011.out 0; have hfz14_1 := blk_frozen BK7011.out 1; have hfz14_2 := blk_frozen BK7011.out 2; have hfz14_3 := blk_frozen BK7011.out 3) | (go_at_call 21; (with_reducible refine (customsref08_Characters.calls k _ _ t7001 _ _ t7004 (fun k_ => (((some k_ ≠ (.slice Ao9 t7001.length co9 : Value).ownBlock ∧ some k_ ≠ (.slice Ao11 t7004.length co11 : Value).ownBlock) ∧ k_ ≠ gb7011) ∧ some k_ ≠ (v7013 : Value).ownBlock)) _ _ t7007 t7010 t7015 _ ?side1 ?side2 ?side3 ?side4 ?side5 A4.out).mono ?_); (case side1 => exact Kd.C_ext (Kd.R_reads' HO7003.out).2.2); (case side2 => exact (Kd.R_reads' HO7003.out).2.1); (case side3 => exact Kd.C_ext (Kd.R_reads' HO7006.out).2.2); (case side4 => exact (Kd.R_reads' HO7006.out).2.1); (case side5 => exact Kd.N_V (HO7009.out)); rintro e w15 ⟨v7016, rfl, ho0, hb⟩; have n4_ := Aside0.mk (Kd.N_lower (Kd.N_mono (ok' := fun k_ => some k_ ≠ (.slice Ao9 t7001.length co9 : Value).ownBlock ∧ some k_ ≠ (.slice Ao11 t7004.length co11 : Value).ownBlock ∧ some k_ ≠ (v7013 : Value).ownBlock ∧ k_ ≠ gb7011) ho0 (fun k_ hk_ => ⟨Or.elim hk_ (fun hs_ => hs_.1.1.1) (fun hn_ => (Kd.fresh' (Kd.R_lt (Kd.R_ext HO7003.out)) k_ hn_)), Or.elim hk_ (fun hs_ => hs_.1.1.2) (fun hn_ => (Kd.fresh' (Kd.R_lt (Kd.R_ext HO7006.out)) k_ hn_)), Or.elim hk_ (fun hs_ => hs_.2) (fun hn_ => (Kd.fresh' (Kd.N_lt (Kd.N_ext HO7014.out)) k_ hn_)), Or.elim hk_ (fun hs_ => hs_.1.2) (fun hn_ => (Kd.freshB (blk_ext BK7011.out) k_ hn_))⟩)) (below_size (below_extB HB.out))); have HO7017 := n4_; replace HO7003 := mvR HO7003 hb; replace HO7006 := mvR HO7006 hb; replace HO7009 := apN HO7009 hb (Kd.N_base ho0); replace HO7014 := apN HO7014 hb (Kd.N_base ho0); replace BK7011 := mvB BK7011 hb; replace HB := mvH HB hb; clear n4_; (try clear hb); (try clear hb2); (try clear hk); (try clear hi); (try clear ho0); obtain ⟨Ao16, co16, eo16⟩ := Kd.N_slice HO7014.out; subst eo16; obtain ⟨Ao17, co17, eo17⟩ := Kd.N_slice HO7017.out; subst eo17) | (go_at_call 20; (with_reducible refine (customsref08_SameParts.calls k _ _ t7012 _ _ t7015 true _ ?side1 ?side2 ?side3 ?side4 A5.out).mono ?_); (case side1 => exact Kd.C_ext (Kd.N_reads' HO7014.out).2.2); (case side2 => exact (Kd.N_reads' HO7014.out).2.1); (case side3 => exact Kd.C_ext (Kd.N_reads' HO7017.out).2.2); (case side4 => exact (Kd.N_reads' HO7017.out).2.1); rintro e w' ⟨rfl, ⟨nd, rfl⟩⟩; (try first | exact ⟨rfl, _, World.drewN_drewN _ _ _⟩ | exact ⟨rfl, _, Eq.trans (World.drewN_drewN _ _ _) (congrArg (World.drewN _) (Nat.add_assoc _ _ _))⟩)))
  repeat (go_quiet (first | (go_at_call 9; (with_reducible refine (customsmade_Good.calls k _ _ l0 t7001 t7004 t7007 t7010 _ ?side1 ?side2 A2.out).mono ?_); (case side1 => repeat (first | exact HR0.out | (with_reducible refine Kd.C_alloc ?_ _) | (with_reducible refine Kd.C_drewN ?_ _) | (with_reducible refine Kd.C_drew ?_))); (case side2 => exact HC0.out); rintro e w7 ⟨v7002, v7005, v7008, rfl, ho0, ho1, ho2, hb⟩; have n0_ := Aside0.mk (Kd.R_lower (Kd.R_mono (ok' := fun k_ => True) ho0 (fun _ hk_ => trivial)) (below_size (below_ext HB.out))); have n1_ := Aside0.mk (Kd.R_lower (Kd.R_mono (ok' := fun k_ => True) ho1 (fun _ hk_ => trivial)) (below_size (below_ext HB.out))); have n2_ := Aside0.mk (Kd.N_lower (Kd.N_mono (ok' := fun k_ => some k_ ≠ (v7002 : Value).ownBlock ∧ some k_ ≠ (v7005 : Value).ownBlock) ho2 (fun k_ hk_ => ⟨hk_.2.1, hk_.2.2⟩)) (below_size (below_ext HB.out))); have HO7003 := n0_; have HO7006 := n1_; have HO7009 := n2_; replace HB := mvH HB hb; clear n0_ n1_ n2_; (try clear hb); (try clear hb2); (try clear hk); (try clear hi); (try clear ho0); (try clear ho1); (try clear ho2)) | ((with_reducible refine gate_dst (N := 3) rfl ?_); (try (refine gate_guard (by rfl) ?_; dsimp only)); refine box_event ?hg (N := 3) ?hd (cs := #[.slice none 0 0, .slice none 0 0, .slice none 0 0, .bool false]) (t := 26) ?hr ?_; (case hd => rfl); (case hg => rfl); (case hr => first | (go_simp; done) | (go_simp; rfl)); intro gb7011 hg w8 hbox hb; have n4_ := Aside0.mk (hbox); have n5_ := Aside0.mk ((by rw [hg]; exact (below_size (below_ext HB.out)) : w.heap.size ≤ gb7011)); have n6_ := Aside0.mk ((by rw [hg]; exact (below_size (below_ext HB.out)) : w.heap.size ≤ gb7011)); have BK7011 := n4_; have GW7011 := n5_; have GE7011 := n6_; have GI7011 := GE_.mk GE7011.out; replace HO7003 := mvR HO7003 hb; replace HO7006 := mvR HO7006 hb; replace HO7009 := awN HO7009 hb gb7011 hg; replace HB := mvH HB hb; clear n4_ n5_ n6_; clear hb hbox hg; obtain ⟨Ao9, co9, eo9⟩ := Kd.R_slice HO7003.out; subst eo9; have hcz10_0 : w8.cell? ⟨gb7011, 0, none⟩ = some (.slice none 0 0) := (blk_cell BK7011.out 0).trans rfl; have hcz10_1 : w8.cell? ⟨gb7011, 1, none⟩ = some (.slice none 0 0) := (blk_cell BK7011.out 1).trans rfl; have hcz10_2 : w8.cell? ⟨gb7011, 2, none⟩ = some (.slice none 0 0) := (blk_cell BK7011.out 2).trans rfl; have hcz10_3 : w8.cell? ⟨gb7011, 3, none⟩ = some (.bool false) := (blk_cell BK7011.out 3).trans rfl; have hfz10_0 := blk_frozen BK7011.out 0; have hfz10_1 := blk_frozen BK7011.out 1; have hfz10_2 := blk_frozen BK7011.out 2; have hfz10_3 := blk_frozen BK7011.out 3; obtain ⟨Ao11, co11, eo11⟩ := Kd.R_slice HO7006.out; subst eo11; obtain ⟨Ao12, co12, eo12⟩ := Kd.N_slice HO7009.out; subst eo12) | (go_at_call 19; (with_reducible refine (goods_Characters.calls k _ _ t7001 _ _ t7004 _ _ t7007 t7010 t7012 _ ?side1 ?side2 ?side3 ?side4 ?side5 ?side6 A3.out).mono ?_); (case side1 => refine (Kd.R_reads' (e := 9) (base := w.heap.size) (ok := fun k_ => True) (n := t7001.length) (c := co9) ?_).2.2; exact (Kd.R_ext ((Kd.R_mono (Kd.R_far (p := ⟨gb7011, 3, none⟩) (Kd.R_far (p := ⟨gb7011, 2, none⟩) (Kd.R_far (p := ⟨gb7011, 1, none⟩) (Kd.R_far (p := ⟨gb7011, 0, none⟩) (Kd.R_types HO7003.out BK7011.out (by decide)) (fun _ hk => hk.2) (.slice Ao9 t7001.length co9)) (fun _ hk => hk.2) (.slice Ao11 t7004.length co11)) (fun _ hk => hk.2) (.slice Ao12 t7007.length co12)) (fun _ hk => hk.2) (.bool t7010)) (fun _ h_ => h_.1))))); (case side2 => exact (Kd.R_reads' HO7003.out).2.1); (case side3 => refine (Kd.R_reads' (e := 36) (base := w.heap.size) (ok := fun k_ => True) (n := t7004.length) (c := co11) ?_).2.2; exact (Kd.R_ext ((Kd.R_mono (Kd.R_far (p := ⟨gb7011, 3, none⟩) (Kd.R_far (p := ⟨gb7011, 2, none⟩) (Kd.R_far (p := ⟨gb7011, 1, none⟩) (Kd.R_far (p := ⟨gb7011, 0, none⟩) (Kd.R_types HO7006.out BK7011.out (by decide)) (fun _ hk => hk.2) (.slice Ao9 t7001.length co9)) (fun _ hk => hk.2) (.slice Ao11 t7004.length co11)) (fun _ hk => hk.2) (.slice Ao12 t7007.length co12)) (fun _ hk => hk.2) (.bool t7010)) (fun _ h_ => h_.1))))); (case side4 => exact (Kd.R_reads' HO7006.out).2.1); (case side5 => refine (Kd.N_reads' (e := 38) (base := w.heap.size) (ok := fun k_ => ((some k_ ≠ (.slice Ao9 t7001.length co9 : Value).ownBlock ∧ some k_ ≠ (.slice Ao11 t7004.length co11 : Value).ownBlock) ∧ k_ ≠ gb7011)) (n := t7007.length) (c := co12) ?_).2.2; exact (Kd.N_ext ((Kd.N_mono (Kd.N_far (p := ⟨gb7011, 3, none⟩) (Kd.N_far (p := ⟨gb7011, 2, none⟩) (Kd.N_far (p := ⟨gb7011, 1, none⟩) (Kd.N_far (p := ⟨gb7011, 0, none⟩) (Kd.N_mono HO7009.out (fun k_ hk => (⟨hk, hk.2⟩ : _ ∧ k_ ≠ gb7011))) (fun _ hk => hk.2) (.slice Ao9 t7001.length co9)) (fun _ hk => hk.2) (.slice Ao11 t7004.length co11)) (fun _ hk => hk.2) (.slice Ao12 t7007.length co12)) (fun _ hk => hk.2) (.bool t7010)) (fun _ h_ => h_.1))))); (case side6 => exact (Kd.N_reads' HO7009.out).2.1); rintro e w13 ⟨v7013, rfl, ho0, hb⟩; have n0_ := Aside0.mk (Kd.R_below (Kd.R_ext ((Kd.R_mono (Kd.R_far (p := ⟨gb7011, 3, none⟩) (Kd.R_far (p := ⟨gb7011, 2, none⟩) (Kd.R_far (p := ⟨gb7011, 1, none⟩) (Kd.R_far (p := ⟨gb7011, 0, none⟩) (Kd.R_types HO7003.out BK7011.out (by decide)) (fun _ hk => hk.2) (.slice Ao9 t7001.length co9)) (fun _ hk => hk.2) (.slice Ao11 t7004.length co11)) (fun _ hk => hk.2) (.slice Ao12 t7007.length co12)) (fun _ hk => hk.2) (.bool t7010)) (fun _ h_ => h_.1)))) hb); have n1_ := Aside0.mk (Kd.R_below (Kd.R_ext ((Kd.R_mono (Kd.R_far (p := ⟨gb7011, 3, none⟩) (Kd.R_far (p := ⟨gb7011, 2, none⟩) (Kd.R_far (p := ⟨gb7011, 1, none⟩) (Kd.R_far (p := ⟨gb7011, 0, none⟩) (Kd.R_types HO7006.out BK7011.out (by decide)) (fun _ hk => hk.2) (.slice Ao9 t7001.length co9)) (fun _ hk => hk.2) (.slice Ao11 t7004.length co11)) (fun _ hk => hk.2) (.slice Ao12 t7007.length co12)) (fun _ hk => hk.2) (.bool t7010)) (fun _ h_ => h_.1)))) hb); have n2_ := Aside0.mk (Kd.N_elder' (Kd.N_ext ((Kd.N_mono (Kd.N_far (p := ⟨gb7011, 3, none⟩) (Kd.N_far (p := ⟨gb7011, 2, none⟩) (Kd.N_far (p := ⟨gb7011, 1, none⟩) (Kd.N_far (p := ⟨gb7011, 0, none⟩) (Kd.N_mono HO7009.out (fun k_ hk => (⟨hk, hk.2⟩ : _ ∧ k_ ≠ gb7011))) (fun _ hk => hk.2) (.slice Ao9 t7001.length co9)) (fun _ hk => hk.2) (.slice Ao11 t7004.length co11)) (fun _ hk => hk.2) (.slice Ao12 t7007.length co12)) (fun _ hk => hk.2) (.bool t7010)) (fun _ h_ => h_.1)))) (Kd.N_base ho0) hb); have n3_ := Aside0.mk (Kd.N_lower (Kd.N_mono (ok' := fun k_ => some k_ ≠ (.slice Ao9 t7001.length co9 : Value).ownBlock ∧ some k_ ≠ (.slice Ao11 t7004.length co11 : Value).ownBlock ∧ some k_ ≠ (.slice Ao12 t7007.length co12 : Value).ownBlock ∧ k_ ≠ gb7011) ho0 (fun k_ hk_ => ⟨(Kd.fresh' (Kd.R_lt (Kd.R_ext ((Kd.R_mono (Kd.R_far (p := ⟨gb7011, 3, none⟩) (Kd.R_far (p := ⟨gb7011, 2, none⟩) (Kd.R_far (p := ⟨gb7011, 1, none⟩) (Kd.R_far (p := ⟨gb7011, 0, none⟩) (Kd.R_types HO7003.out BK7011.out (by decide)) (fun _ hk => hk.2) (.slice Ao9 t7001.length co9)) (fun _ hk => hk.2) (.slice Ao11 t7004.length co11)) (fun _ hk => hk.2) (.slice Ao12 t7007.length co12)) (fun _ hk => hk.2) (.bool t7010)) (fun _ h_ => h_.1))))) k_ hk_), (Kd.fresh' (Kd.R_lt (Kd.R_ext ((Kd.R_mono (Kd.R_far (p := ⟨gb7011, 3, none⟩) (Kd.R_far (p := ⟨gb7011, 2, none⟩) (Kd.R_far (p := ⟨gb7011, 1, none⟩) (Kd.R_far (p := ⟨gb7011, 0, none⟩) (Kd.R_types HO7006.out BK7011.out (by decide)) (fun _ hk => hk.2) (.slice Ao9 t7001.length co9)) (fun _ hk => hk.2) (.slice Ao11 t7004.length co11)) (fun _ hk => hk.2) (.slice Ao12 t7007.length co12)) (fun _ hk => hk.2) (.bool t7010)) (fun _ h_ => h_.1))))) k_ hk_), (Kd.fresh' (Kd.N_lt (Kd.N_ext ((Kd.N_mono (Kd.N_far (p := ⟨gb7011, 3, none⟩) (Kd.N_far (p := ⟨gb7011, 2, none⟩) (Kd.N_far (p := ⟨gb7011, 1, none⟩) (Kd.N_far (p := ⟨gb7011, 0, none⟩) (Kd.N_mono HO7009.out (fun k_ hk => (⟨hk, hk.2⟩ : _ ∧ k_ ≠ gb7011))) (fun _ hk => hk.2) (.slice Ao9 t7001.length co9)) (fun _ hk => hk.2) (.slice Ao11 t7004.length co11)) (fun _ hk => hk.2) (.slice Ao12 t7007.length co12)) (fun _ hk => hk.2) (.bool t7010)) (fun _ h_ => h_.1))))) k_ hk_), (Kd.freshB (g := gb7011) (o := .cells #[.slice Ao9 t7001.length co9, .slice Ao11 t7004.length co11, .slice Ao12 t7007.length co12, .bool t7010] 26 (0, 0)) (by (with_reducible repeat (first | refine blk_drewN ?_ _ | refine blk_drew ?_ | refine blk_alloc ?_ _)); refine blk_put (cs := #[.slice Ao9 t7001.length co9, .slice Ao11 t7004.length co11, .slice Ao12 t7007.length co12, .bool false]) ?_ 3 _ rfl; (with_reducible repeat (first | refine blk_drewN ?_ _ | refine blk_drew ?_ | refine blk_alloc ?_ _)); refine blk_put (cs := #[.slice Ao9 t7001.length co9, .slice Ao11 t7004.length co11, .slice none 0 0, .bool false]) ?_ 2 _ rfl; (with_reducible repeat (first | refine blk_drewN ?_ _ | refine blk_drew ?_ | refine blk_alloc ?_ _)); refine blk_put (cs := #[.slice Ao9 t7001.length co9, .slice none 0 0, .slice none 0 0, .bool false]) ?_ 1 _ rfl; (with_reducible repeat (first | refine blk_drewN ?_ _ | refine blk_drew ?_ | refine blk_alloc ?_ _)); refine blk_put (cs := #[.slice none 0 0, .slice none 0 0, .slice none 0 0, .bool false]) ?_ 0 _ rfl; exact blk_ext BK7011.out) k_ hk_)⟩)) (below_size (below_extB HB.out))); have n4_ := Aside0.mk (blk_below (g := gb7011) (o := .cells #[.slice Ao9 t7001.length co9, .slice Ao11 t7004.length co11, .slice Ao12 t7007.length co12, .bool t7010] 26 (0, 0)) (by (with_reducible repeat (first | refine blk_drewN ?_ _ | refine blk_drew ?_ | refine blk_alloc ?_ _)); refine blk_put (cs := #[.slice Ao9 t7001.length co9, .slice Ao11 t7004.length co11, .slice Ao12 t7007.length co12, .bool false]) ?_ 3 _ rfl; (with_reducible repeat (first | refine blk_drewN ?_ _ | refine blk_drew ?_ | refine blk_alloc ?_ _)); refine blk_put (cs := #[.slice Ao9 t7001.length co9, .slice Ao11 t7004.length co11, .slice none 0 0, .bool false]) ?_ 2 _ rfl; (with_reducible repeat (first | refine blk_drewN ?_ _ | refine blk_drew ?_ | refine blk_alloc ?_ _)); refine blk_put (cs := #[.slice Ao9 t7001.length co9, .slice none 0 0, .slice none 0 0, .bool false]) ?_ 1 _ rfl; (with_reducible repeat (first | refine blk_drewN ?_ _ | refine blk_drew ?_ | refine blk_alloc ?_ _)); refine blk_put (cs := #[.slice none 0 0, .slice none 0 0, .slice none 0 0, .bool false]) ?_ 0 _ rfl; exact blk_ext BK7011.out) hb); clear HO7003; clear HO7006; clear HO7009; clear BK7011; have HO7003 := n0_; have HO7006 := n1_; have HO7009 := n2_; have HO7014 := n3_; have BK7011 := n4_; replace HB := mvH HB hb; clear n0_ n1_ n2_ n3_ n4_; (try clear hb); (try clear hb2); (try clear hk); (try clear hi); (try clear ho0); have hcz14_0 : w13.cell? ⟨gb7011, 0, none⟩ = some (.slice Ao9 t7001.length co9) := (blk_cell BK7011.out 0).trans rfl; have hcz14_1 : w13.cell? ⟨gb7011, 1, none⟩ = some (.slice Ao11 t7004.length co11) := (blk_cell BK7011.out 1).trans rfl; have hcz14_2 : w13.cell? ⟨gb7011, 2, none⟩ = some (.slice Ao12 t7007.length co12) := (blk_cell BK7011.out 2).trans rfl; have hcz14_3 : w13.cell? ⟨gb7011, 3, none⟩ = some (.bool t7010) := (blk_cell BK7011.out 3).trans rfl; have hfz14_0 := blk_frozen BK7011.out 0; have hfz14_1 := blk_frozen BK7011.out 1; have hfz14_2 := blk_frozen BK7011.out 2; have hfz14_3 := blk_frozen BK7011.out 3) | (go_at_call 21; (with_reducible refine (customsref08_Characters.calls k _ _ t7001 _ _ t7004 (fun k_ => (((some k_ ≠ (.slice Ao9 t7001.length co9 : Value).ownBlock ∧ some k_ ≠ (.slice Ao11 t7004.length co11 : Value).ownBlock) ∧ k_ ≠ gb7011) ∧ some k_ ≠ (v7013 : Value).ownBlock)) _ _ t7007 t7010 t7015 _ ?side1 ?side2 ?side3 ?side4 ?side5 A4.out).mono ?_); (case side1 => exact Kd.C_ext (Kd.R_reads' HO7003.out).2.2); (case side2 => exact (Kd.R_reads' HO7003.out).2.1); (case side3 => exact Kd.C_ext (Kd.R_reads' HO7006.out).2.2); (case side4 => exact (Kd.R_reads' HO7006.out).2.1); (case side5 => exact Kd.N_V (HO7009.out)); rintro e w15 ⟨v7016, rfl, ho0, hb⟩; have n4_ := Aside0.mk (Kd.N_lower (Kd.N_mono (ok' := fun k_ => some k_ ≠ (.slice Ao9 t7001.length co9 : Value).ownBlock ∧ some k_ ≠ (.slice Ao11 t7004.length co11 : Value).ownBlock ∧ some k_ ≠ (v7013 : Value).ownBlock ∧ k_ ≠ gb7011) ho0 (fun k_ hk_ => ⟨Or.elim hk_ (fun hs_ => hs_.1.1.1) (fun hn_ => (Kd.fresh' (Kd.R_lt (Kd.R_ext HO7003.out)) k_ hn_)), Or.elim hk_ (fun hs_ => hs_.1.1.2) (fun hn_ => (Kd.fresh' (Kd.R_lt (Kd.R_ext HO7006.out)) k_ hn_)), Or.elim hk_ (fun hs_ => hs_.2) (fun hn_ => (Kd.fresh' (Kd.N_lt (Kd.N_ext HO7014.out)) k_ hn_)), Or.elim hk_ (fun hs_ => hs_.1.2) (fun hn_ => (Kd.freshB (blk_ext BK7011.out) k_ hn_))⟩)) (below_size (below_extB HB.out))); have HO7017 := n4_; replace HO7003 := mvR HO7003 hb; replace HO7006 := mvR HO7006 hb; replace HO7009 := apN HO7009 hb (Kd.N_base ho0); replace HO7014 := apN HO7014 hb (Kd.N_base ho0); replace BK7011 := mvB BK7011 hb; replace HB := mvH HB hb; clear n4_; (try clear hb); (try clear hb2); (try clear hk); (try clear hi); (try clear ho0); obtain ⟨Ao16, co16, eo16⟩ := Kd.N_slice HO7014.out; subst eo16; obtain ⟨Ao17, co17, eo17⟩ := Kd.N_slice HO7017.out; subst eo17) | (go_at_call 20; (with_reducible refine (customsref08_SameParts.calls k _ _ t7012 _ _ t7015 true _ ?side1 ?side2 ?side3 ?side4 A5.out).mono ?_); (case side1 => exact Kd.C_ext (Kd.N_reads' HO7014.out).2.2); (case side2 => exact (Kd.N_reads' HO7014.out).2.1); (case side3 => exact Kd.C_ext (Kd.N_reads' HO7017.out).2.2); (case side4 => exact (Kd.N_reads' HO7017.out).2.1); rintro e w' ⟨rfl, ⟨nd, rfl⟩⟩; (try first | exact ⟨rfl, _, World.drewN_drewN _ _ _⟩ | exact ⟨rfl, _, Eq.trans (World.drewN_drewN _ _ _) (congrArg (World.drewN _) (Nat.add_assoc _ _ _))⟩))); try go_wp2_with (first | (go_at_call 9; (with_reducible refine (customsmade_Good.calls k _ _ l0 t7001 t7004 t7007 t7010 _ ?side1 ?side2 A2.out).mono ?_); (case side1 => repeat (first | exact HR0.out | (with_reducible refine Kd.C_alloc ?_ _) | (with_reducible refine Kd.C_drewN ?_ _) | (with_reducible refine Kd.C_drew ?_))); (case side2 => exact HC0.out); rintro e w7 ⟨v7002, v7005, v7008, rfl, ho0, ho1, ho2, hb⟩; have n0_ := Aside0.mk (Kd.R_lower (Kd.R_mono (ok' := fun k_ => True) ho0 (fun _ hk_ => trivial)) (below_size (below_ext HB.out))); have n1_ := Aside0.mk (Kd.R_lower (Kd.R_mono (ok' := fun k_ => True) ho1 (fun _ hk_ => trivial)) (below_size (below_ext HB.out))); have n2_ := Aside0.mk (Kd.N_lower (Kd.N_mono (ok' := fun k_ => some k_ ≠ (v7002 : Value).ownBlock ∧ some k_ ≠ (v7005 : Value).ownBlock) ho2 (fun k_ hk_ => ⟨hk_.2.1, hk_.2.2⟩)) (below_size (below_ext HB.out))); have HO7003 := n0_; have HO7006 := n1_; have HO7009 := n2_; replace HB := mvH HB hb; clear n0_ n1_ n2_; (try clear hb); (try clear hb2); (try clear hk); (try clear hi); (try clear ho0); (try clear ho1); (try clear ho2)) | ((with_reducible refine gate_dst (N := 3) rfl ?_); (try (refine gate_guard (by rfl) ?_; dsimp only)); refine box_event ?hg (N := 3) ?hd (cs := #[.slice none 0 0, .slice none 0 0, .slice none 0 0, .bool false]) (t := 26) ?hr ?_; (case hd => rfl); (case hg => rfl); (case hr => first | (go_simp; done) | (go_simp; rfl)); intro gb7011 hg w8 hbox hb; have n4_ := Aside0.mk (hbox); have n5_ := Aside0.mk ((by rw [hg]; exact (below_size (below_ext HB.out)) : w.heap.size ≤ gb7011)); have n6_ := Aside0.mk ((by rw [hg]; exact (below_size (below_ext HB.out)) : w.heap.size ≤ gb7011)); have BK7011 := n4_; have GW7011 := n5_; have GE7011 := n6_; have GI7011 := GE_.mk GE7011.out; replace HO7003 := mvR HO7003 hb; replace HO7006 := mvR HO7006 hb; replace HO7009 := awN HO7009 hb gb7011 hg; replace HB := mvH HB hb; clear n4_ n5_ n6_; clear hb hbox hg; obtain ⟨Ao9, co9, eo9⟩ := Kd.R_slice HO7003.out; subst eo9; have hcz10_0 : w8.cell? ⟨gb7011, 0, none⟩ = some (.slice none 0 0) := (blk_cell BK7011.out 0).trans rfl; have hcz10_1 : w8.cell? ⟨gb7011, 1, none⟩ = some (.slice none 0 0) := (blk_cell BK7011.out 1).trans rfl; have hcz10_2 : w8.cell? ⟨gb7011, 2, none⟩ = some (.slice none 0 0) := (blk_cell BK7011.out 2).trans rfl; have hcz10_3 : w8.cell? ⟨gb7011, 3, none⟩ = some (.bool false) := (blk_cell BK7011.out 3).trans rfl; have hfz10_0 := blk_frozen BK7011.out 0; have hfz10_1 := blk_frozen BK7011.out 1; have hfz10_2 := blk_frozen BK7011.out 2; have hfz10_3 := blk_frozen BK7011.out 3; obtain ⟨Ao11, co11, eo11⟩ := Kd.R_slice HO7006.out; subst eo11; obtain ⟨Ao12, co12, eo12⟩ := Kd.N_slice HO7009.out; subst eo12) | (go_at_call 19; (with_reducible refine (goods_Characters.calls k _ _ t7001 _ _ t7004 _ _ t7007 t7010 t7012 _ ?side1 ?side2 ?side3 ?side4 ?side5 ?side6 A3.out).mono ?_); (case side1 => refine (Kd.R_reads' (e := 9) (base := w.heap.size) (ok := fun k_ => True) (n := t7001.length) (c := co9) ?_).2.2; exact (Kd.R_ext ((Kd.R_mono (Kd.R_far (p := ⟨gb7011, 3, none⟩) (Kd.R_far (p := ⟨gb7011, 2, none⟩) (Kd.R_far (p := ⟨gb7011, 1, none⟩) (Kd.R_far (p := ⟨gb7011, 0, none⟩) (Kd.R_types HO7003.out BK7011.out (by decide)) (fun _ hk => hk.2) (.slice Ao9 t7001.length co9)) (fun _ hk => hk.2) (.slice Ao11 t7004.length co11)) (fun _ hk => hk.2) (.slice Ao12 t7007.length co12)) (fun _ hk => hk.2) (.bool t7010)) (fun _ h_ => h_.1))))); (case side2 => exact (Kd.R_reads' HO7003.out).2.1); (case side3 => refine (Kd.R_reads' (e := 36) (base := w.heap.size) (ok := fun k_ => True) (n := t7004.length) (c := co11) ?_).2.2; exact (Kd.R_ext ((Kd.R_mono (Kd.R_far (p := ⟨gb7011, 3, none⟩) (Kd.R_far (p := ⟨gb7011, 2, none⟩) (Kd.R_far (p := ⟨gb7011, 1, none⟩) (Kd.R_far (p := ⟨gb7011, 0, none⟩) (Kd.R_types HO7006.out BK7011.out (by decide)) (fun _ hk => hk.2) (.slice Ao9 t7001.length co9)) (fun _ hk => hk.2) (.slice Ao11 t7004.length co11)) (fun _ hk => hk.2) (.slice Ao12 t7007.length co12)) (fun _ hk => hk.2) (.bool t7010)) (fun _ h_ => h_.1))))); (case side4 => exact (Kd.R_reads' HO7006.out).2.1); (case side5 => refine (Kd.N_reads' (e := 38) (base := w.heap.size) (ok := fun k_ => ((some k_ ≠ (.slice Ao9 t7001.length co9 : Value).ownBlock ∧ some k_ ≠ (.slice Ao11 t7004.length co11 : Value).ownBlock) ∧ k_ ≠ gb7011)) (n := t7007.length) (c := co12) ?_).2.2; exact (Kd.N_ext ((Kd.N_mono (Kd.N_far (p := ⟨gb7011, 3, none⟩) (Kd.N_far (p := ⟨gb7011, 2, none⟩) (Kd.N_far (p := ⟨gb7011, 1, none⟩) (Kd.N_far (p := ⟨gb7011, 0, none⟩) (Kd.N_mono HO7009.out (fun k_ hk => (⟨hk, hk.2⟩ : _ ∧ k_ ≠ gb7011))) (fun _ hk => hk.2) (.slice Ao9 t7001.length co9)) (fun _ hk => hk.2) (.slice Ao11 t7004.length co11)) (fun _ hk => hk.2) (.slice Ao12 t7007.length co12)) (fun _ hk => hk.2) (.bool t7010)) (fun _ h_ => h_.1))))); (case side6 => exact (Kd.N_reads' HO7009.out).2.1); rintro e w13 ⟨v7013, rfl, ho0, hb⟩; have n0_ := Aside0.mk (Kd.R_below (Kd.R_ext ((Kd.R_mono (Kd.R_far (p := ⟨gb7011, 3, none⟩) (Kd.R_far (p := ⟨gb7011, 2, none⟩) (Kd.R_far (p := ⟨gb7011, 1, none⟩) (Kd.R_far (p := ⟨gb7011, 0, none⟩) (Kd.R_types HO7003.out BK7011.out (by decide)) (fun _ hk => hk.2) (.slice Ao9 t7001.length co9)) (fun _ hk => hk.2) (.slice Ao11 t7004.length co11)) (fun _ hk => hk.2) (.slice Ao12 t7007.length co12)) (fun _ hk => hk.2) (.bool t7010)) (fun _ h_ => h_.1)))) hb); have n1_ := Aside0.mk (Kd.R_below (Kd.R_ext ((Kd.R_mono (Kd.R_far (p := ⟨gb7011, 3, none⟩) (Kd.R_far (p := ⟨gb7011, 2, none⟩) (Kd.R_far (p := ⟨gb7011, 1, none⟩) (Kd.R_far (p := ⟨gb7011, 0, none⟩) (Kd.R_types HO7006.out BK7011.out (by decide)) (fun _ hk => hk.2) (.slice Ao9 t7001.length co9)) (fun _ hk => hk.2) (.slice Ao11 t7004.length co11)) (fun _ hk => hk.2) (.slice Ao12 t7007.length co12)) (fun _ hk => hk.2) (.bool t7010)) (fun _ h_ => h_.1)))) hb); have n2_ := Aside0.mk (Kd.N_elder' (Kd.N_ext ((Kd.N_mono (Kd.N_far (p := ⟨gb7011, 3, none⟩) (Kd.N_far (p := ⟨gb7011, 2, none⟩) (Kd.N_far (p := ⟨gb7011, 1, none⟩) (Kd.N_far (p := ⟨gb7011, 0, none⟩) (Kd.N_mono HO7009.out (fun k_ hk => (⟨hk, hk.2⟩ : _ ∧ k_ ≠ gb7011))) (fun _ hk => hk.2) (.slice Ao9 t7001.length co9)) (fun _ hk => hk.2) (.slice Ao11 t7004.length co11)) (fun _ hk => hk.2) (.slice Ao12 t7007.length co12)) (fun _ hk => hk.2) (.bool t7010)) (fun _ h_ => h_.1)))) (Kd.N_base ho0) hb); have n3_ := Aside0.mk (Kd.N_lower (Kd.N_mono (ok' := fun k_ => some k_ ≠ (.slice Ao9 t7001.length co9 : Value).ownBlock ∧ some k_ ≠ (.slice Ao11 t7004.length co11 : Value).ownBlock ∧ some k_ ≠ (.slice Ao12 t7007.length co12 : Value).ownBlock ∧ k_ ≠ gb7011) ho0 (fun k_ hk_ => ⟨(Kd.fresh' (Kd.R_lt (Kd.R_ext ((Kd.R_mono (Kd.R_far (p := ⟨gb7011, 3, none⟩) (Kd.R_far (p := ⟨gb7011, 2, none⟩) (Kd.R_far (p := ⟨gb7011, 1, none⟩) (Kd.R_far (p := ⟨gb7011, 0, none⟩) (Kd.R_types HO7003.out BK7011.out (by decide)) (fun _ hk => hk.2) (.slice Ao9 t7001.length co9)) (fun _ hk => hk.2) (.slice Ao11 t7004.length co11)) (fun _ hk => hk.2) (.slice Ao12 t7007.length co12)) (fun _ hk => hk.2) (.bool t7010)) (fun _ h_ => h_.1))))) k_ hk_), (Kd.fresh' (Kd.R_lt (Kd.R_ext ((Kd.R_mono (Kd.R_far (p := ⟨gb7011, 3, none⟩) (Kd.R_far (p := ⟨gb7011, 2, none⟩) (Kd.R_far (p := ⟨gb7011, 1, none⟩) (Kd.R_far (p := ⟨gb7011, 0, none⟩) (Kd.R_types HO7006.out BK7011.out (by decide)) (fun _ hk => hk.2) (.slice Ao9 t7001.length co9)) (fun _ hk => hk.2) (.slice Ao11 t7004.length co11)) (fun _ hk => hk.2) (.slice Ao12 t7007.length co12)) (fun _ hk => hk.2) (.bool t7010)) (fun _ h_ => h_.1))))) k_ hk_), (Kd.fresh' (Kd.N_lt (Kd.N_ext ((Kd.N_mono (Kd.N_far (p := ⟨gb7011, 3, none⟩) (Kd.N_far (p := ⟨gb7011, 2, none⟩) (Kd.N_far (p := ⟨gb7011, 1, none⟩) (Kd.N_far (p := ⟨gb7011, 0, none⟩) (Kd.N_mono HO7009.out (fun k_ hk => (⟨hk, hk.2⟩ : _ ∧ k_ ≠ gb7011))) (fun _ hk => hk.2) (.slice Ao9 t7001.length co9)) (fun _ hk => hk.2) (.slice Ao11 t7004.length co11)) (fun _ hk => hk.2) (.slice Ao12 t7007.length co12)) (fun _ hk => hk.2) (.bool t7010)) (fun _ h_ => h_.1))))) k_ hk_), (Kd.freshB (g := gb7011) (o := .cells #[.slice Ao9 t7001.length co9, .slice Ao11 t7004.length co11, .slice Ao12 t7007.length co12, .bool t7010] 26 (0, 0)) (by (with_reducible repeat (first | refine blk_drewN ?_ _ | refine blk_drew ?_ | refine blk_alloc ?_ _)); refine blk_put (cs := #[.slice Ao9 t7001.length co9, .slice Ao11 t7004.length co11, .slice Ao12 t7007.length co12, .bool false]) ?_ 3 _ rfl; (with_reducible repeat (first | refine blk_drewN ?_ _ | refine blk_drew ?_ | refine blk_alloc ?_ _)); refine blk_put (cs := #[.slice Ao9 t7001.length co9, .slice Ao11 t7004.length co11, .slice none 0 0, .bool false]) ?_ 2 _ rfl; (with_reducible repeat (first | refine blk_drewN ?_ _ | refine blk_drew ?_ | refine blk_alloc ?_ _)); refine blk_put (cs := #[.slice Ao9 t7001.length co9, .slice none 0 0, .slice none 0 0, .bool false]) ?_ 1 _ rfl; (with_reducible repeat (first | refine blk_drewN ?_ _ | refine blk_drew ?_ | refine blk_alloc ?_ _)); refine blk_put (cs := #[.slice none 0 0, .slice none 0 0, .slice none 0 0, .bool false]) ?_ 0 _ rfl; exact blk_ext BK7011.out) k_ hk_)⟩)) (below_size (below_extB HB.out))); have n4_ := Aside0.mk (blk_below (g := gb7011) (o := .cells #[.slice Ao9 t7001.length co9, .slice Ao11 t7004.length co11, .slice Ao12 t7007.length co12, .bool t7010] 26 (0, 0)) (by (with_reducible repeat (first | refine blk_drewN ?_ _ | refine blk_drew ?_ | refine blk_alloc ?_ _)); refine blk_put (cs := #[.slice Ao9 t7001.length co9, .slice Ao11 t7004.length co11, .slice Ao12 t7007.length co12, .bool false]) ?_ 3 _ rfl; (with_reducible repeat (first | refine blk_drewN ?_ _ | refine blk_drew ?_ | refine blk_alloc ?_ _)); refine blk_put (cs := #[.slice Ao9 t7001.length co9, .slice Ao11 t7004.length co11, .slice none 0 0, .bool false]) ?_ 2 _ rfl; (with_reducible repeat (first | refine blk_drewN ?_ _ | refine blk_drew ?_ | refine blk_alloc ?_ _)); refine blk_put (cs := #[.slice Ao9 t7001.length co9, .slice none 0 0, .slice none 0 0, .bool false]) ?_ 1 _ rfl; (with_reducible repeat (first | refine blk_drewN ?_ _ | refine blk_drew ?_ | refine blk_alloc ?_ _)); refine blk_put (cs := #[.slice none 0 0, .slice none 0 0, .slice none 0 0, .bool false]) ?_ 0 _ rfl; exact blk_ext BK7011.out) hb); clear HO7003; clear HO7006; clear HO7009; clear BK7011; have HO7003 := n0_; have HO7006 := n1_; have HO7009 := n2_; have HO7014 := n3_; have BK7011 := n4_; replace HB := mvH HB hb; clear n0_ n1_ n2_ n3_ n4_; (try clear hb); (try clear hb2); (try clear hk); (try clear hi); (try clear ho0); have hcz14_0 : w13.cell? ⟨gb7011, 0, none⟩ = some (.slice Ao9 t7001.length co9) := (blk_cell BK7011.out 0).trans rfl; have hcz14_1 : w13.cell? ⟨gb7011, 1, none⟩ = some (.slice Ao11 t7004.length co11) := (blk_cell BK7011.out 1).trans rfl; have hcz14_2 : w13.cell? ⟨gb7011, 2, none⟩ = some (.slice Ao12 t7007.length co12) := (blk_cell BK7011.out 2).trans rfl; have hcz14_3 : w13.cell? ⟨gb7011, 3, none⟩ = some (.bool t7010) := (blk_cell BK7011.out 3).trans rfl; have hfz14_0 := blk_frozen BK7011.out 0; have hfz14_1 := blk_frozen BK7011.out 1; have hfz14_2 := blk_frozen BK7011.out 2; have hfz14_3 := blk_frozen BK7011.out 3) | (go_at_call 21; (with_reducible refine (customsref08_Characters.calls k _ _ t7001 _ _ t7004 (fun k_ => (((some k_ ≠ (.slice Ao9 t7001.length co9 : Value).ownBlock ∧ some k_ ≠ (.slice Ao11 t7004.length co11 : Value).ownBlock) ∧ k_ ≠ gb7011) ∧ some k_ ≠ (v7013 : Value).ownBlock)) _ _ t7007 t7010 t7015 _ ?side1 ?side2 ?side3 ?side4 ?side5 A4.out).mono ?_); (case side1 => exact Kd.C_ext (Kd.R_reads' HO7003.out).2.2); (case side2 => exact (Kd.R_reads' HO7003.out).2.1); (case side3 => exact Kd.C_ext (Kd.R_reads' HO7006.out).2.2); (case side4 => exact (Kd.R_reads' HO7006.out).2.1); (case side5 => exact Kd.N_V (HO7009.out)); rintro e w15 ⟨v7016, rfl, ho0, hb⟩; have n4_ := Aside0.mk (Kd.N_lower (Kd.N_mono (ok' := fun k_ => some k_ ≠ (.slice Ao9 t7001.length co9 : Value).ownBlock ∧ some k_ ≠ (.slice Ao11 t7004.length co11 : Value).ownBlock ∧ some k_ ≠ (v7013 : Value).ownBlock ∧ k_ ≠ gb7011) ho0 (fun k_ hk_ => ⟨Or.elim hk_ (fun hs_ => hs_.1.1.1) (fun hn_ => (Kd.fresh' (Kd.R_lt (Kd.R_ext HO7003.out)) k_ hn_)), Or.elim hk_ (fun hs_ => hs_.1.1.2) (fun hn_ => (Kd.fresh' (Kd.R_lt (Kd.R_ext HO7006.out)) k_ hn_)), Or.elim hk_ (fun hs_ => hs_.2) (fun hn_ => (Kd.fresh' (Kd.N_lt (Kd.N_ext HO7014.out)) k_ hn_)), Or.elim hk_ (fun hs_ => hs_.1.2) (fun hn_ => (Kd.freshB (blk_ext BK7011.out) k_ hn_))⟩)) (below_size (below_extB HB.out))); have HO7017 := n4_; replace HO7003 := mvR HO7003 hb; replace HO7006 := mvR HO7006 hb; replace HO7009 := apN HO7009 hb (Kd.N_base ho0); replace HO7014 := apN HO7014 hb (Kd.N_base ho0); replace BK7011 := mvB BK7011 hb; replace HB := mvH HB hb; clear n4_; (try clear hb); (try clear hb2); (try clear hk); (try clear hi); (try clear ho0); obtain ⟨Ao16, co16, eo16⟩ := Kd.N_slice HO7014.out; subst eo16; obtain ⟨Ao17, co17, eo17⟩ := Kd.N_slice HO7017.out; subst eo17) | (go_at_call 20; (with_reducible refine (customsref08_SameParts.calls k _ _ t7012 _ _ t7015 true _ ?side1 ?side2 ?side3 ?side4 A5.out).mono ?_); (case side1 => exact Kd.C_ext (Kd.N_reads' HO7014.out).2.2); (case side2 => exact (Kd.N_reads' HO7014.out).2.1); (case side3 => exact Kd.C_ext (Kd.N_reads' HO7017.out).2.2); (case side4 => exact (Kd.N_reads' HO7017.out).2.1); rintro e w' ⟨rfl, ⟨nd, rfl⟩⟩; (try first | exact ⟨rfl, _, World.drewN_drewN _ _ _⟩ | exact ⟨rfl, _, Eq.trans (World.drewN_drewN _ _ _) (congrArg (World.drewN _) (Nat.add_assoc _ _ _))⟩))))
  go_loopg [5, 6] k (fun kq v5 v6 w' => ∃ (x5_1 : Int) (x6_1 : Int), v5 = .int .i64 x5_1 ∧ v6 = .int .i64 x6_1 ∧ Aside0 (customslaw08_GoodsCharacters.l0 kq t7012 x5_1 x6_1 t7001 t7004 t7007 t7010 = some r) ∧ Aside0 (kq ≤ k) ∧ Aside0 (Kd.N k38 38 w' w.heap.size (fun k_ => some k_ ≠ ((.slice Ao9 t7001.length co9) : Value).ownBlock ∧ some k_ ≠ ((.slice Ao11 t7004.length co11) : Value).ownBlock ∧ some k_ ≠ ((.slice Ao12 t7007.length co12) : Value).ownBlock ∧ k_ ≠ gb7011) (.slice Ao16 t7012.length co16) t7012) ∧ Aside0 (Kd.R Kd.string 9 w' w.heap.size (fun _ => True) (.slice Ao9 t7001.length co9) t7001) ∧ Aside0 (Kd.R k36 36 w' w.heap.size (fun _ => True) (.slice Ao11 t7004.length co11) t7004) ∧ Aside0 (Kd.N k38 38 w' w.heap.size (fun k_ => some k_ ≠ ((.slice Ao16 t7012.length co16) : Value).ownBlock ∧ some k_ ≠ ((.slice Ao9 t7001.length co9) : Value).ownBlock ∧ some k_ ≠ ((.slice Ao11 t7004.length co11) : Value).ownBlock ∧ k_ ≠ gb7011) (.slice Ao12 t7007.length co12) t7007) ∧ Aside0 (w'.heap[gb7011]? = some (.cells #[(.slice Ao9 t7001.length co9), (.slice Ao11 t7004.length co11), (.slice Ao12 t7007.length co12), .bool t7010] 26 (0, 0))) ∧ Aside0 (Below w.heap.size w w'))
  case atStart => exact ⟨(0), (0), (by first | rfl | (simp; done) | (simp [*]; done)), (by first | rfl | (simp; done) | (simp [*]; done)), H', ⟨Nat.le_refl _⟩, ⟨Kd.N_ext (Kd.N_mono HO7014.out (fun _ hk => ⟨hk.1.1, ⟨hk.1.2.1, ⟨hk.1.2.2.1, hk.1.2.2.2⟩⟩⟩))⟩, ⟨Kd.R_ext HO7003.out⟩, ⟨Kd.R_ext HO7006.out⟩, ⟨Kd.N_ext (Kd.N_mono HO7009.out (fun _ hk => ⟨hk.1.2, ⟨hk.1.1.1.1, ⟨hk.1.1.1.2, hk.1.1.2⟩⟩⟩))⟩, ⟨blk_ext BK7011.out⟩, ⟨below_extB HB.out⟩⟩
  case round =>
   clear H'
   try clear p2
   try clear c6
   try clear c7
   try clear hcz10_0
   try clear hcz10_1
   try clear hcz10_2
   try clear hcz10_3
   try clear hcz14_0
   try clear hcz14_1
   try clear hcz14_2
   try clear hcz14_3
   try clear hfz10_0
   try clear hfz10_1
   try clear hfz10_2
   try clear hfz10_3
   try clear hfz14_0
   try clear hfz14_1
   try clear hfz14_2
   try clear hfz14_3
   obtain ⟨x5_1, x6_1, rfl, rfl, HA, HK1, HO_4, HO_7012000, HO_7012001, HO_7012002, BK7011, HB⟩ := hrel
   cases gk with
   | zero => exact absurd HA.out (by simp [customslaw08_GoodsCharacters.l0])
   | succ k1 =>
    have H := HA.out
    clear HA
    simp only [customslaw08_GoodsCharacters.l0] at H
    by_cases c18 : x6_1 < (t7012.length : Int)
    ·
     rw [if_pos c18] at H
     have c18b0 : decide (x6_1 < (t7012.length : Int)) = true := decide_eq_true c18
     clear c18
     replace H := if_some H; obtain ⟨c19, H⟩ := H
     have c19b0 : decide (0 ≤ x6_1) = true := decide_eq_true c19
     clear c19
     by_cases c20 : x6_1 > 0
     ·
      rw [if_pos c20] at H
      have c20b0 : decide (0 < x6_1) = true := decide_eq_true c20
      clear c20
      obtain ⟨ji21, hji21⟩ : ∃ j_ : Int, (wrap64 (x6_1 - 1)) = j_ := ⟨_, rfl⟩
      replace H : (if 0 ≤ (ji21) then (if (ji21) < (t7012.length : Int) then (if ((rd_T38 t7012 (ji21)).f1) < ((rd_T38 t7012 x6_1).f1) then (none) else (customslaw08_GoodsCharacters.l0 k1 t7012 (wrap64 (x5_1 + ((rd_T38 t7012 x6_1).f1))) (wrap64 (x6_1 + 1)) t7001 t7004 t7007 t7010)) else (none)) else (none)) = some r := by first | (rw [hji21] at H; exact H) | (simp only [hji21] at H ⊢; exact H)
      have hji21w : (IntKind.i64.wrap (x6_1 - 1)) = ji21 := (i64_w _).trans hji21
      replace H := if_some H; obtain ⟨c22, H⟩ := H
      have c22b0 : decide (0 ≤ (ji21)) = true := decide_eq_true c22
      clear c22
      replace H := if_some H; obtain ⟨c23, H⟩ := H
      have c23b0 : decide ((ji21) < (t7012.length : Int)) = true := decide_eq_true c23
      clear c23
      replace H := if_none H; obtain ⟨c24, H⟩ := H
      have c24b0 : decide (((rd_T38 t7012 (ji21)).f1) < ((rd_T38 t7012 x6_1).f1)) = false := decide_eq_false c24
      clear c24
      have H' := Aside0.mk H
      clear H
      have p7019 : 0 ≤ (x6_1 : Int) := of_decide_eq_true (by first | (with_reducible assumption) | assumption)
      have q7019 : x6_1 < (t7012.length : Int) := of_decide_eq_true (by first | (with_reducible assumption) | assumption)
      obtain ⟨ad7019, A7019_0, c7019_0, e7019, hx7019_0, hx7019_1, hl7019_0, hi7019_0⟩ := at_T38 (Kd.N_reads' HO_4.out).2.2 x6_1 p7019 q7019
      cases e7019
      obtain ⟨ce7019, hce7019, hMe7019, hcc7019⟩ := Kd.N_get HO_4.out z38 x6_1 p7019 (by first | exact q7019 | exact of_decide_eq_true (by first | (with_reducible assumption) | assumption) | (have e_ := (Kd.N_reads' HO_4.out).1; omega))
      obtain ⟨ua7019_0, uc7019_0, rfl, ul7019_0, ge7019_0⟩ := k38_openF hMe7019
      have hv7019_0 := hcc7019 0 _ rfl
      rw [Nat.add_zero] at hv7019_0
      replace hv7019_0 := Option.some.inj (hv7019_0.symm.trans hx7019_0)
      injection hv7019_0 with hva_ hvn_ hvc_
      rw [hva_] at ge7019_0
      rw [hvc_] at ul7019_0
      have HL7019_0 := Aside0.mk (show Kd.V Kd.string 9 _ w.heap.size _ _ ((rd_T38 t7012 x6_1).f0) from Kd.V_mk ul7019_0 ge7019_0)
      clear hva_ hvn_ hvc_ ge7019_0 ul7019_0
      clear hcc7019 hce7019
      have HR7019_0 := Aside0.mk hi7019_0
      have HC7019_0 := Aside0.mk hl7019_0
      clear hi7019_0 hl7019_0
      replace p7019 := eq_true p7019
      replace q7019 := eq_true q7019
      have p7020 : 0 ≤ ((ji21) : Int) := of_decide_eq_true (by first | (with_reducible assumption) | assumption)
      have q7020 : (ji21) < (t7012.length : Int) := of_decide_eq_true (by first | (with_reducible assumption) | assumption)
      obtain ⟨ad7020, A7020_0, c7020_0, e7020, hx7020_0, hx7020_1, hl7020_0, hi7020_0⟩ := at_T38 (Kd.N_reads' HO_4.out).2.2 (ji21) p7020 q7020
      obtain rfl : ad7019 = ad7020 := (by injection e7020)
      obtain ⟨ce7020, hce7020, hMe7020, hcc7020⟩ := Kd.N_get HO_4.out z38 (ji21) p7020 (by first | exact q7020 | exact of_decide_eq_true (by first | (with_reducible assumption) | assumption) | (have e_ := (Kd.N_reads' HO_4.out).1; omega))
      obtain ⟨ua7020_0, uc7020_0, rfl, ul7020_0, ge7020_0⟩ := k38_openF hMe7020
      have hv7020_0 := hcc7020 0 _ rfl
      rw [Nat.add_zero] at hv7020_0
      replace hv7020_0 := Option.some.inj (hv7020_0.symm.trans hx7020_0)
      injection hv7020_0 with hva_ hvn_ hvc_
      rw [hva_] at ge7020_0
      rw [hvc_] at ul7020_0
      have HL7020_0 := Aside0.mk (show Kd.V Kd.string 9 _ w.heap.size _ _ ((rd_T38 t7012 (ji21)).f0) from Kd.V_mk ul7020_0 ge7020_0)
      clear hva_ hvn_ hvc_ ge7020_0 ul7020_0
      clear hcc7020 hce7020
      have HR7020_0 := Aside0.mk hi7020_0
      have HC7020_0 := Aside0.mk hl7020_0
      clear hi7020_0 hl7020_0
      replace p7020 := eq_true p7020
      replace q7020 := eq_true q7020
      have p7021 : 0 ≤ (x6_1 : Int) := of_decide_eq_true (by first | (with_reducible assumption) | assumption)
      have q7021 : x6_1 < (t7012.length : Int) := of_decide_eq_true (by first | (with_reducible assumption) | assumption)
      obtain ⟨ad7021, A7021_0, c7021_0, e7021, hx7021_0, hx7021_1, hl7021_0, hi7021_0⟩ := at_T38 (Kd.N_reads' HO_4.out).2.2 x6_1 p7021 q7021
      obtain rfl : ad7019 = ad7021 := (by injection e7021)
      obtain ⟨ce7021, hce7021, hMe7021, hcc7021⟩ := Kd.N_get HO_4.out z38 x6_1 p7021 (by first | exact q7021 | exact of_decide_eq_true (by first | (with_reducible assumption) | assumption) | (have e_ := (Kd.N_reads' HO_4.out).1; omega))
      obtain ⟨ua7021_0, uc7021_0, rfl, ul7021_0, ge7021_0⟩ := k38_openF hMe7021
      have hv7021_0 := hcc7021 0 _ rfl
      rw [Nat.add_zero] at hv7021_0
      replace hv7021_0 := Option.some.inj (hv7021_0.symm.trans hx7021_0)
      injection hv7021_0 with hva_ hvn_ hvc_
      rw [hva_] at ge7021_0
      rw [hvc_] at ul7021_0
      have HL7021_0 := Aside0.mk (show Kd.V Kd.string 9 _ w.heap.size _ _ ((rd_T38 t7012 x6_1).f0) from Kd.V_mk ul7021_0 ge7021_0)
      clear hva_ hvn_ hvc_ ge7021_0 ul7021_0
      clear hcc7021 hce7021
      have HR7021_0 := Aside0.mk hi7021_0
      have HC7021_0 := Aside0.mk hl7021_0
      clear hi7021_0 hl7021_0
      replace p7021 := eq_true p7021
      replace q7021 := eq_true q7021
      have ea_ := Option.some.inj (hx7019_0.symm.trans hx7021_0)
      injection ea_ with ea_ en_ ec_
      subst ea_
      subst ec_
      clear en_
      go_wp2
      repeat (go_quiet (fail); try go_wp2)
      go_roundg k1
      case measure => have := HK1.out; omega
      case rel => exact ⟨(wrap64 (x5_1 + ((rd_T38 t7012 x6_1).f1))), (wrap64 (x6_1 + 1)), (by first | rfl | (simp; done) | (simp [*]; done)), (by first | rfl | (simp; done) | (simp [*]; done)), H', ⟨by have := HK1.out; omega⟩, ⟨Kd.N_ext HO_4.out⟩, ⟨Kd.R_ext HO_7012000.out⟩, ⟨Kd.R_ext HO_7012001.out⟩, ⟨Kd.N_ext HO_7012002.out⟩, ⟨blk_ext BK7011.out⟩, ⟨below_extB HB.out⟩⟩
     ·
      rw [if_neg c20] at H
      have c20b0 : decide (0 < x6_1) = false := decide_eq_false c20
      clear c20
      have H' := Aside0.mk H
      clear H
      have p7019 : 0 ≤ (x6_1 : Int) := of_decide_eq_true (by first | (with_reducible assumption) | assumption)
      have q7019 : x6_1 < (t7012.length : Int) := of_decide_eq_true (by first | (with_reducible assumption) | assumption)
      obtain ⟨ad7019, A7019_0, c7019_0, e7019, hx7019_0, hx7019_1, hl7019_0, hi7019_0⟩ := at_T38 (Kd.N_reads' HO_4.out).2.2 x6_1 p7019 q7019
      cases e7019
      obtain ⟨ce7019, hce7019, hMe7019, hcc7019⟩ := Kd.N_get HO_4.out z38 x6_1 p7019 (by first | exact q7019 | exact of_decide_eq_true (by first | (with_reducible assumption) | assumption) | (have e_ := (Kd.N_reads' HO_4.out).1; omega))
      obtain ⟨ua7019_0, uc7019_0, rfl, ul7019_0, ge7019_0⟩ := k38_openF hMe7019
      have hv7019_0 := hcc7019 0 _ rfl
      rw [Nat.add_zero] at hv7019_0
      replace hv7019_0 := Option.some.inj (hv7019_0.symm.trans hx7019_0)
      injection hv7019_0 with hva_ hvn_ hvc_
      rw [hva_] at ge7019_0
      rw [hvc_] at ul7019_0
      have HL7019_0 := Aside0.mk (show Kd.V Kd.string 9 _ w.heap.size _ _ ((rd_T38 t7012 x6_1).f0) from Kd.V_mk ul7019_0 ge7019_0)
      clear hva_ hvn_ hvc_ ge7019_0 ul7019_0
      clear hcc7019 hce7019
      have HR7019_0 := Aside0.mk hi7019_0
      have HC7019_0 := Aside0.mk hl7019_0
      clear hi7019_0 hl7019_0
      replace p7019 := eq_true p7019
      replace q7019 := eq_true q7019
      go_wp2
      repeat (go_quiet (fail); try go_wp2)
      go_roundg k1
      case measure => have := HK1.out; omega
      case rel => exact ⟨(wrap64 (x5_1 + ((rd_T38 t7012 x6_1).f1))), (wrap64 (x6_1 + 1)), (by first | rfl | (simp; done) | (simp [*]; done)), (by first | rfl | (simp; done) | (simp [*]; done)), H', ⟨by have := HK1.out; omega⟩, ⟨Kd.N_ext HO_4.out⟩, ⟨Kd.R_ext HO_7012000.out⟩, ⟨Kd.R_ext HO_7012001.out⟩, ⟨Kd.N_ext HO_7012002.out⟩, ⟨blk_ext BK7011.out⟩, ⟨below_extB HB.out⟩⟩
    ·
     rw [if_neg c18] at H
     have c18b0 : decide (x6_1 < (t7012.length : Int)) = false := decide_eq_false c18
     clear c18
     by_cases c25 : x5_1 = 1000000
     ·
      rw [if_pos c25] at H
      have c25b0 : (x5_1 == 1000000) = true := beq_iff_eq.mpr c25
      have c25b1 : (x5_1 != 1000000) = false := bne_eq_false_iff_eq.mpr c25
      clear c25
      replace H := Option.bind_eq_some_iff.mp H
      obtain ⟨t7022, A260, H⟩ := H
      try dsimp only at H
      have A26 := Aside0.mk A260
      clear A260
      obtain rfl := Option.some.inj H
      go_wp2_with (first | (go_at_call 13; (with_reducible refine (customslaw08_awake.calls k1  t7022 _ A26.out ?side1).mono ?_); (case side1 => exact GL.below HG.out (below_extB HB.out)); rintro e w27 ⟨rfl, hb⟩; replace HO_4 := mvN HO_4 hb; replace HO_7012000 := mvR HO_7012000 hb; replace HO_7012001 := mvR HO_7012001 hb; replace HO_7012002 := mvN HO_7012002 hb; replace BK7011 := mvB BK7011 hb; replace HB := mvH HB hb; (try clear hb); (try clear hb2); (try clear hk); (try clear hi)))
      repeat (go_quiet (first | (go_at_call 13; (with_reducible refine (customslaw08_awake.calls k1  t7022 _ A26.out ?side1).mono ?_); (case side1 => exact GL.below HG.out (below_extB HB.out)); rintro e w27 ⟨rfl, hb⟩; replace HO_4 := mvN HO_4 hb; replace HO_7012000 := mvR HO_7012000 hb; replace HO_7012001 := mvR HO_7012001 hb; replace HO_7012002 := mvN HO_7012002 hb; replace BK7011 := mvB BK7011 hb; replace HB := mvH HB hb; (try clear hb); (try clear hb2); (try clear hk); (try clear hi))); try go_wp2_with (first | (go_at_call 13; (with_reducible refine (customslaw08_awake.calls k1  t7022 _ A26.out ?side1).mono ?_); (case side1 => exact GL.below HG.out (below_extB HB.out)); rintro e w27 ⟨rfl, hb⟩; replace HO_4 := mvN HO_4 hb; replace HO_7012000 := mvR HO_7012000 hb; replace HO_7012001 := mvR HO_7012001 hb; replace HO_7012002 := mvN HO_7012002 hb; replace BK7011 := mvB BK7011 hb; replace HB := mvH HB hb; (try clear hb); (try clear hb2); (try clear hk); (try clear hi))))
      go_ret
      exact ⟨by first | rfl | (simp [errW_none, errW_some] <;> rfl) | (simp [*, errW_none, errW_some] <;> rfl), below_extB HB.out⟩
     ·
      rw [if_neg c25] at H
      have c25b0 : (x5_1 == 1000000) = false := beq_eq_false_iff_ne.mpr c25
      have c25b1 : (x5_1 != 1000000) = true := bne_iff_ne.mpr c25
      replace H := if_some H; obtain ⟨c28, H⟩ := H
      have c28b0 : ((t7012.length : Int) == 0) = true := beq_iff_eq.mpr c28
      have c28b1 : ((t7012.length : Int) != 0) = false := bne_eq_false_iff_eq.mpr c28
      clear c28
      replace H := if_some H; obtain ⟨c29, H⟩ := H
      have c29b0 : ((wrap64 ((t7004.length : Int) + (t7007.length : Int))) == 0) = true := beq_iff_eq.mpr c29
      have c29b1 : ((wrap64 ((t7004.length : Int) + (t7007.length : Int))) != 0) = false := bne_eq_false_iff_eq.mpr c29
      clear c29
      replace H := Option.bind_eq_some_iff.mp H
      obtain ⟨t7023, A300, H⟩ := H
      try dsimp only at H
      have A30 := Aside0.mk A300
      clear A300
      obtain rfl := Option.some.inj H
      have hcz31_0 : wr.cell? ⟨gb7011, 0, none⟩ = some (.slice Ao9 t7001.length co9) := (blk_cell BK7011.out 0).trans rfl
      have hcz31_1 : wr.cell? ⟨gb7011, 1, none⟩ = some (.slice Ao11 t7004.length co11) := (blk_cell BK7011.out 1).trans rfl
      have hcz31_2 : wr.cell? ⟨gb7011, 2, none⟩ = some (.slice Ao12 t7007.length co12) := (blk_cell BK7011.out 2).trans rfl
      have hcz31_3 : wr.cell? ⟨gb7011, 3, none⟩ = some (.bool t7010) := (blk_cell BK7011.out 3).trans rfl
      have hfz31_0 := blk_frozen BK7011.out 0
      have hfz31_1 := blk_frozen BK7011.out 1
      have hfz31_2 := blk_frozen BK7011.out 2
      have hfz31_3 := blk_frozen BK7011.out 3
      go_wp2_with (first | (go_at_call 13; (with_reducible refine (customslaw08_awake.calls k1  t7023 _ A30.out ?side1).mono ?_); (case side1 => exact GL.below HG.out (below_extB HB.out)); rintro e w32 ⟨rfl, hb⟩; replace HO_4 := mvN HO_4 hb; replace HO_7012000 := mvR HO_7012000 hb; replace HO_7012001 := mvR HO_7012001 hb; replace HO_7012002 := mvN HO_7012002 hb; replace BK7011 := mvB BK7011 hb; replace HB := mvH HB hb; (try clear hb); (try clear hb2); (try clear hk); (try clear hi)))
      repeat (go_quiet (first | (go_at_call 13; (with_reducible refine (customslaw08_awake.calls k1  t7023 _ A30.out ?side1).mono ?_); (case side1 => exact GL.below HG.out (below_extB HB.out)); rintro e w32 ⟨rfl, hb⟩; replace HO_4 := mvN HO_4 hb; replace HO_7012000 := mvR HO_7012000 hb; replace HO_7012001 := mvR HO_7012001 hb; replace HO_7012002 := mvN HO_7012002 hb; replace BK7011 := mvB BK7011 hb; replace HB := mvH HB hb; (try clear hb); (try clear hb2); (try clear hk); (try clear hi))); try go_wp2_with (first | (go_at_call 13; (with_reducible refine (customslaw08_awake.calls k1  t7023 _ A30.out ?side1).mono ?_); (case side1 => exact GL.below HG.out (below_extB HB.out)); rintro e w32 ⟨rfl, hb⟩; replace HO_4 := mvN HO_4 hb; replace HO_7012000 := mvR HO_7012000 hb; replace HO_7012001 := mvR HO_7012001 hb; replace HO_7012002 := mvN HO_7012002 hb; replace BK7011 := mvB BK7011 hb; replace HB := mvH HB hb; (try clear hb); (try clear hb2); (try clear hk); (try clear hi))))
      go_ret
      exact ⟨by first | rfl | (simp [errW_none, errW_some] <;> rfl) | (simp [*, errW_none, errW_some] <;> rfl), below_extB HB.out⟩
 ·
  replace c6 := Bool.eq_false_iff.mpr c6
  subst c6
  have H1 : (none) = some r := by rw [if_neg (show ¬ (false = true) by decide)] at H; exact H
  clear H
  have H := H1
  clear H1
  exact absurd H (by simp)

end Go.Proofs.YtoolggpfgadjlaaDoor.Z
