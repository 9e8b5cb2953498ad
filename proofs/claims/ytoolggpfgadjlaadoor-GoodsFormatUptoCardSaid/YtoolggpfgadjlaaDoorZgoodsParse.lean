/- Printed: a Go function in plain Lean, and that its call does what it says. Conditions: those each theorem states. -/
import Derived.Test.YtoolggpfgadjlaaDoorZ0
import Derived.Test.YtoolggpfgadjlaaDoorZgoodsValidate
import Derived.Test.YtoolggpfgadjlaaDoorZgoodsFormat
import Derived.Test.YtoolggpfgadjlaaDoorZstringsSplit
import Derived.Test.YtoolggpfgadjlaaDoorZstringsHasPrefix
import Derived.Test.YtoolggpfgadjlaaDoorZgoodspair
namespace Go.Proofs.YtoolggpfgadjlaaDoor.Z
open Go.RowKit Go.Proofs.YtoolggpfgadjlaaDoorW.PrintWords Go.Proofs.YtoolggpfgadjlaaDoorW.PrintLast Go.Proofs.YtoolggpfgadjlaaDoorW.PrintMore
attribute [local go_sem high] str_leq str_geq str_gtr   -- strings
attribute [local go_sem] max2_int min2_int max_two min_two max_three min_three max_four min_four   -- for this text's walks alone
set_option linter.unusedVariables false
set_option linter.unusedSimpArgs false

/-! ### goods_Parse: function 16 -/
mutual
def goods_Parse.l0 : Nat → ByteArray → List ByteArray → Int → Int → List ByteArray → List (S36) → List (S38) → Bool → Option (List ByteArray × (List (S36)) × (List (S38)) × Bool × Int)
 | 0, _, _, _, _, _, _, _, _ => none
 | k + 1, x0, x24, x25, x26, x16010000, x16010001, x16010002, x16010003 => if x26 < x25 then (if 0 ≤ x26 then (if x26 < (x24.length : Int) then (if (rdOf ByteArray.empty x24 x26).toList = ([105, 110, 99, 111, 109, 112, 108, 101, 116, 101] : List UInt8) then (goods_Parse.l0 k x0 x24 x25 (wrap64 (x26 + 1)) x16010000 x16010001 x16010002 true) else ((strings_HasPrefix.f (rdOf ByteArray.empty x24 x26) (⟨#[109, 58]⟩ : ByteArray)).bind fun t16016 => (if t16016 = true then (if 2 ≤ ((rdOf ByteArray.empty x24 x26).size : Int) then ((strings_Split.f ((rdOf ByteArray.empty x24 x26).extract 2 (rdOf ByteArray.empty x24 x26).size) (⟨#[44]⟩ : ByteArray)).bind fun t16017 => (goods_Parse.l1 k x0 x24 x25 x26 t16017 (t16017.length : Int) 0 x16010000 x16010001 x16010002 x16010003)) else (none)) else ((strings_HasPrefix.f (rdOf ByteArray.empty x24 x26) (⟨#[112, 58]⟩ : ByteArray)).bind fun t16026 => (if t16026 = true then (if 2 ≤ ((rdOf ByteArray.empty x24 x26).size : Int) then ((strings_Split.f ((rdOf ByteArray.empty x24 x26).extract 2 (rdOf ByteArray.empty x24 x26).size) (⟨#[44]⟩ : ByteArray)).bind fun t16027 => (goods_Parse.l2 k x0 x24 x25 x26 t16027 (t16027.length : Int) 0 x16010000 x16010001 x16010002 x16010003)) else (none)) else (goods_Parse.l0 k x0 x24 x25 (wrap64 (x26 + 1)) x16010000 x16010001 x16010002 x16010003)))))) else (none)) else (none)) else ((goods_Validate.f k x16010000 x16010001 x16010002 x16010003).bind fun t16039 => (if t16039 = 0 then ((goods_Format.f k x16010000 x16010001 x16010002 x16010003).bind fun t16040 => (if t16040.toList = x0.toList then (some (x16010000, x16010001, x16010002, x16010003, 0)) else (some (([] : List ByteArray), ([] : List (S36)), ([] : List (S38)), false, 4)))) else (some (([] : List ByteArray), ([] : List (S36)), ([] : List (S38)), false, 4))))
def goods_Parse.l1 : Nat → ByteArray → List ByteArray → Int → Int → List ByteArray → Int → Int → List ByteArray → List (S36) → List (S38) → Bool → Option (List ByteArray × (List (S36)) × (List (S38)) × Bool × Int)
 | 0, _, _, _, _, _, _, _, _, _, _, _ => none
 | k + 1, x0, x24, x25, x26, x39, x40, x41, x16010000, x16010001, x16010002, x16010003 => if x41 < x40 then (if 0 ≤ x41 then (if x41 < (x39.length : Int) then ((goods_pair.f (rdOf ByteArray.empty x39 x41)).bind fun bt16021 => (if x16010001.length < 5864062014805 then (goods_Parse.l1 k x0 x24 x25 x26 x39 x40 (wrap64 (x41 + 1)) x16010000 (x16010001 ++ [(⟨bt16021.1, bt16021.2⟩ : S36)]) x16010002 x16010003) else (none))) else (none)) else (none)) else (goods_Parse.l0 k x0 x24 x25 (wrap64 (x26 + 1)) x16010000 x16010001 x16010002 x16010003)
def goods_Parse.l2 : Nat → ByteArray → List ByteArray → Int → Int → List ByteArray → Int → Int → List ByteArray → List (S36) → List (S38) → Bool → Option (List ByteArray × (List (S36)) × (List (S38)) × Bool × Int)
 | 0, _, _, _, _, _, _, _, _, _, _, _ => none
 | k + 1, x0, x24, x25, x26, x64, x65, x66, x16010000, x16010001, x16010002, x16010003 => if x66 < x65 then (if 0 ≤ x66 then (if x66 < (x64.length : Int) then ((goods_pair.f (rdOf ByteArray.empty x64 x66)).bind fun bt16031 => ((strings_Split.f bt16031.1 (⟨#[43]⟩ : ByteArray)).bind fun t16033 => (if x16010002.length < 4398046511104 then (goods_Parse.l2 k x0 x24 x25 x26 x64 x65 (wrap64 (x66 + 1)) x16010000 x16010001 (x16010002 ++ [(⟨t16033, bt16031.2⟩ : S38)]) x16010003) else (none)))) else (none)) else (none)) else (goods_Parse.l0 k x0 x24 x25 (wrap64 (x26 + 1)) x16010000 x16010001 x16010002 x16010003)
end
def goods_Parse.f (k : Nat) (a0 : ByteArray) : Option (List ByteArray × (List (S36)) × (List (S38)) × Bool × Int) := (strings_Split.f a0 (⟨#[32]⟩ : ByteArray)).bind fun t16002 => (if 0 < (t16002.length : Int) then ((strings_Split.f (rdOf ByteArray.empty t16002 0) (⟨#[43]⟩ : ByteArray)).bind fun t16006 => (if 1 ≤ (t16002.length : Int) then ((some (t16002.drop 1 : List ByteArray)).bind fun y16010 => (goods_Parse.l0 k a0 y16010 (y16010.length : Int) 0 t16006 ([] : List (S36)) ([] : List (S38)) false)) else (none))) else (none))
theorem goods_Parse.mono_l : ∀ k, (∀ y0 y1 y2 y3 y4 y5 y6 y7, LeO (goods_Parse.l0 k y0 y1 y2 y3 y4 y5 y6 y7) (goods_Parse.l0 (k + 1) y0 y1 y2 y3 y4 y5 y6 y7)) ∧ (∀ y0 y1 y2 y3 y4 y5 y6 y7 y8 y9 y10, LeO (goods_Parse.l1 k y0 y1 y2 y3 y4 y5 y6 y7 y8 y9 y10) (goods_Parse.l1 (k + 1) y0 y1 y2 y3 y4 y5 y6 y7 y8 y9 y10)) ∧ (∀ y0 y1 y2 y3 y4 y5 y6 y7 y8 y9 y10, LeO (goods_Parse.l2 k y0 y1 y2 y3 y4 y5 y6 y7 y8 y9 y10) (goods_Parse.l2 (k + 1) y0 y1 y2 y3 y4 y5 y6 y7 y8 y9 y10))
 | 0 => ⟨fun _ _ _ _ _ _ _ _ r h => by simp [goods_Parse.l0] at h, fun _ _ _ _ _ _ _ _ _ _ _ r h => by simp [goods_Parse.l1] at h, fun _ _ _ _ _ _ _ _ _ _ _ r h => by simp [goods_Parse.l2] at h⟩
 | k + 1 => by
  obtain ⟨ih0, ih1, ih2⟩ := goods_Parse.mono_l k
  refine ⟨?_, ?_, ?_⟩ <;> intros
  all_goals first | unfold goods_Parse.l0 | unfold goods_Parse.l1 | unfold goods_Parse.l2
  all_goals repeat' first
   | (with_reducible exact ih0 _ _ _ _ _ _ _ _)
   | (with_reducible exact ih1 _ _ _ _ _ _ _ _ _ _ _)
   | (with_reducible exact ih2 _ _ _ _ _ _ _ _ _ _ _)
   | (with_reducible exact goods_Format.mono _ _ _ _ _)
   | (with_reducible exact goods_Validate.mono _ _ _ _ _)
   | (with_reducible exact LeO.refl _)
   | (with_reducible exact LeO.none _)
   | (with_reducible refine LeO.ite ?_ ?_)
   | (with_reducible refine LeO.bind ?_ (fun _ => ?_))
   | exact ih0 _ _ _ _ _ _ _ _
   | exact ih1 _ _ _ _ _ _ _ _ _ _ _
   | exact ih2 _ _ _ _ _ _ _ _ _ _ _
   | exact goods_Format.mono _ _ _ _ _
   | exact goods_Validate.mono _ _ _ _ _
   | exact LeO.none _
   | refine LeO.ite ?_ ?_
   | refine LeO.bind ?_ (fun _ => ?_)
theorem goods_Parse.mono : ∀ a0 k, LeO (goods_Parse.f k a0) (goods_Parse.f (k + 1) a0) := by
 intro a0 k
 obtain ⟨ih0, ih1, ih2⟩ := goods_Parse.mono_l k
 unfold goods_Parse.f
 repeat' first
   | (with_reducible exact ih0 _ _ _ _ _ _ _ _)
   | (with_reducible exact ih1 _ _ _ _ _ _ _ _ _ _ _)
   | (with_reducible exact ih2 _ _ _ _ _ _ _ _ _ _ _)
   | (with_reducible exact goods_Format.mono _ _ _ _ _)
   | (with_reducible exact goods_Validate.mono _ _ _ _ _)
   | (with_reducible exact LeO.refl _)
   | (with_reducible exact LeO.none _)
   | (with_reducible refine LeO.ite ?_ ?_)
   | (with_reducible refine LeO.bind ?_ (fun _ => ?_))
   | exact ih0 _ _ _ _ _ _ _ _
   | exact ih1 _ _ _ _ _ _ _ _ _ _ _
   | exact ih2 _ _ _ _ _ _ _ _ _ _ _
   | exact goods_Format.mono _ _ _ _ _
   | exact goods_Validate.mono _ _ _ _ _
   | exact LeO.none _
   | refine LeO.ite ?_ ?_
   | refine LeO.bind ?_ (fun _ => ?_)
def goods_Parse.T20 : Bool × List (List Nat × List Nat) := (true, [([], []), ([0], [0]), ([], []), ([2], [2]), ([], []), ([3, 4], [3, 4]), ([5], [5]), ([1, 6, 3], [1, 6]), ([0, 1, 2, 3, 4, 5, 6, 7], []), ([8, 7, 7, 0, 1, 2, 3, 4, 5, 6, 7], [7, 8])])
def goods_Parse.B20 : List Nat := [0, 1, 0, 4, 0, 28, 60, 127, 255, 511]
theorem goods_Parse.tab20 : rtab .any (opsOf Tryd.f16 20) = goods_Parse.T20 := by kernel_rfl
theorem goods_Parse.bits20 : waitsOk goods_Parse.T20.2 goods_Parse.B20 = true := by kernel_rfl
set_option maxHeartbeats 8000000 in
set_option maxRecDepth 100000 in
theorem goods_Parse.calls (k : Nat) (a0 : ByteArray) (r1 : List ByteArray) (r2 : List (S36)) (r3 : List (S38)) (r4 : Bool) (r5 : Int) (w : World) (h : goods_Parse.f k a0 = some (r1, r2, r3, r4, r5)) (hG : GL w) :
  Calls Tryd.prog 16 #[.string a0] w fun e w' => ∃ v0_ v1_ v2_ : Value, e = .returned (.tuple #[.agg #[v0_, v1_, v2_, .bool r4], .int .i64 r5]) ∧ Kd.R Kd.string 9 w' w.heap.size (fun k_ => (w.heap.size ≤ k_)) v0_ r1 ∧ Kd.R k36 36 w' w.heap.size (fun k_ => (w.heap.size ≤ k_)) v1_ r2 ∧ Kd.N k38 38 w' w.heap.size (fun k_ => (w.heap.size ≤ k_) ∧ some k_ ≠ (v0_ : Value).ownBlock ∧ some k_ ≠ (v1_ : Value).ownBlock) v2_ r3 ∧ Below w.heap.size w w' := by
 have hu26 := Tryd.underlying26
 have hu36 := Tryd.underlying36
 have hu38 := Tryd.underlying38
 have HB := Aside0.mk (Below.refl w.heap.size w)
 have H : ((strings_Split.f a0 (⟨#[32]⟩ : ByteArray)).bind fun t16002 => (if 0 < (t16002.length : Int) then ((strings_Split.f (rdOf ByteArray.empty t16002 0) (⟨#[43]⟩ : ByteArray)).bind fun t16006 => (if 1 ≤ (t16002.length : Int) then ((some (t16002.drop 1 : List ByteArray)).bind fun y16010 => (goods_Parse.l0 k a0 y16010 (y16010.length : Int) 0 t16006 ([] : List (S36)) ([] : List (S38)) false)) else (none))) else (none))) = some (r1, r2, r3, r4, r5) := h
 clear h
 have HG := Aside0.mk hG
 clear hG
 replace H := Option.bind_eq_some_iff.mp H
 obtain ⟨t16002, A20, H⟩ := H
 replace H : (if 0 < (t16002.length : Int) then ((strings_Split.f (rdOf ByteArray.empty t16002 0) (⟨#[43]⟩ : ByteArray)).bind fun t16006 => (if 1 ≤ (t16002.length : Int) then ((some (t16002.drop 1 : List ByteArray)).bind fun y16010 => (goods_Parse.l0 k a0 y16010 (y16010.length : Int) 0 t16006 ([] : List (S36)) ([] : List (S38)) false)) else (none))) else (none)) = some (r1, r2, r3, r4, r5) := H
 have A2 := Aside0.mk A20
 clear A20
 by_cases c3 : 0 < (t16002.length : Int)
 ·
  rw [if_pos c3] at H
  have c3b0 : decide (0 < (t16002.length : Int)) = true := decide_eq_true c3
  have c3b1 : decide (0 < t16002.length) = true := decide_eq_true (by omega)
  have c3b9 : (0 < t16002.length) = True := eq_true (of_decide_eq_true c3b1)
  clear c3
  replace H := Option.bind_eq_some_iff.mp H
  obtain ⟨t16006, A40, H⟩ := H
  replace H : (if 1 ≤ (t16002.length : Int) then ((some (t16002.drop 1 : List ByteArray)).bind fun y16010 => (goods_Parse.l0 k a0 y16010 (y16010.length : Int) 0 t16006 ([] : List (S36)) ([] : List (S38)) false)) else (none)) = some (r1, r2, r3, r4, r5) := H
  have A4 := Aside0.mk A40
  clear A40
  replace H := if_some H; obtain ⟨c5, H⟩ := H
  have c5b0 := eq_true c5
  have c5b1 : decide (1 ≤ (t16002.length : Int)) = true := decide_eq_true c5
  clear c5
  obtain ⟨y16010, hy16010⟩ : ∃ y_ : List ByteArray, y_ = (t16002.drop 1) := ⟨_, rfl⟩
  replace H : (goods_Parse.l0 k a0 y16010 (y16010.length : Int) 0 t16006 ([] : List (S36)) ([] : List (S38)) false) = some (r1, r2, r3, r4, r5) := by first | (rw [hy16010]; with_reducible exact H) | (have H2_ := (Option.bind_some _ _).symm.trans H; rw [hy16010]; with_reducible exact H2_) | (have H2_ := (Option.bind_some _ _).symm.trans H; with_reducible exact H2_) | with_reducible exact H | (rw [hy16010]; exact H) | exact H
  have Ny16010 := Aside0.mk hy16010
  clear hy16010
  have H' := Aside0.mk H
  clear H
  go_enter Tryd.func16, Tryd.ntmps16
  go_wp2_with (first | ((with_reducible refine gate_dst (N := 2) rfl ?_); refine box_event ?hg (N := 2) ?hd (cs := #[.slice none 0 0, .slice none 0 0, .slice none 0 0, .bool false]) (t := 26) ?hr ?_; (case hd => rfl); (case hg => rfl); (case hr => exact goR); intro gb16001 hg w6 hbox hb; have BK16001 := Aside0.mk (hbox); have GW16001 := gwE hg HB; have GE16001 := GW16001; have GI16001 := GE_.mk GE16001.out; replace HB := mvH HB hb; clear hb hbox hg) | ((with_reducible refine gate_callee (f := 36) rfl ?_); refine goesL_ (some 17) rfl rfl Tryd.func36 (by kernel_rfl) rfl #[.string a0, .string (⟨#[32]⟩ : ByteArray)] rfl goA ?_; (with_reducible refine (strings_Split.calls a0 (⟨#[32]⟩ : ByteArray) t16002 _ A2.out ?side1).mono ?_); (case side1 => exact GL.below HG.out (below_extB HB.out)); rintro e w7 ⟨v16003, rfl, ho0, hb⟩; refine ⟨_, rfl, ?_⟩; have HO16004 := Aside0.mk (Kd.R_lower (Kd.R_newM (M := fun k_ => (w.heap.size ≤ k_)) ho0 (below_size (below_extB HB.out)) (fun k_ h_ => h_)) (below_size (below_extB HB.out))); replace BK16001 := mvB BK16001 hb; replace HB := mvH HB hb; (try clear hb); (try clear hb2); (try clear hk); (try clear hi); (try clear ho0); obtain ⟨Ao8, co8, eo8⟩ := Kd.R_slice HO16004.out; subst eo8; have p16005 : 0 ≤ (0 : Int) := (by omega); have q16005 : 0 < (t16002.length : Int) := odt; obtain ⟨ad16005, e16005, hx16005_0⟩ := Kd.at_string (Kd.R_reads' HO16004.out).2.2 0 p16005 q16005; cases e16005; have qi16005 : (0 < t16002.length) = True := eq_true (by omega); (try rw [show ((0 : Int)).toNat = 0 from rfl] at hx16005_0); (try rw [Addr.add_zero'] at hx16005_0); replace p16005 := eq_true p16005; replace q16005 := eq_true q16005) | ((with_reducible refine gate_callee (f := 36) rfl ?_); refine goesL_ (some 21) rfl rfl Tryd.func36 (by kernel_rfl) rfl #[.string (rdOf ByteArray.empty t16002 0), .string (⟨#[43]⟩ : ByteArray)] rfl goA ?_; (with_reducible refine (strings_Split.calls (rdOf ByteArray.empty t16002 0) (⟨#[43]⟩ : ByteArray) t16006 _ A4.out ?side1).mono ?_); (case side1 => exact GL.below HG.out (below_extB HB.out)); rintro e w9 ⟨v16007, rfl, ho0, hb⟩; refine ⟨_, rfl, ?_⟩; have HO16008 := Aside0.mk (Kd.R_lower (Kd.R_new' (Kd.R_newM (M := fun k_ => (w.heap.size ≤ k_)) ho0 (below_size (below_extB HB.out)) (fun k_ h_ => h_)) (Kd.R_lt (Kd.R_ext HO16004.out))) (below_size (below_extB HB.out))); replace HO16004 := apR HO16004 hb (Kd.R_base ho0); replace BK16001 := mvB BK16001 hb; replace HB := mvH HB hb; (try clear hb); (try clear hb2); (try clear hk); (try clear hi); (try clear ho0); obtain ⟨Ao10, co10, eo10⟩ := Kd.R_slice HO16008.out; subst eo10) | ((with_reducible refine gate_dst (N := 5) rfl ?_); refine box_event ?hg (N := 5) ?hd (cs := #[.slice none 0 0, .slice none 0 0, .slice none 0 0, .bool false]) (t := 26) ?hr ?_; (case hd => rfl); (case hg => rfl); (case hr => exact goR); intro gb16009 hg w11 hbox hb; have BK16009 := Aside0.mk (hbox); have GW16009 := gwB hg HB; have GE16009 := GW16009; have NB16001_16009 := nbL hg BK16001; have NB16009_16001 := nbR hg BK16001; have GI16009 := GE_.mk GE16009.out; have NI16001_16009 := NE_.mk NB16001_16009.out; have NI16009_16001 := NE_.mk NB16009_16001.out; replace HO16004 := mvR HO16004 hb; replace HO16008 := mvR HO16008 hb; replace BK16001 := mvB BK16001 hb; replace HB := mvH HB hb; clear hb hbox hg; have hnb12 := NB16009_16001.out; have hnc12 := NB16001_16009.out; obtain ⟨hcz13_0, hcz13_1, hcz13_2, hcz13_3, hfz13_0, hfz13_1, hfz13_2, hfz13_3⟩ := bk4 BK16009.out) | ((with_reducible refine gate_store (t := 26) (p := 5) rfl ?_); refine store_event (t := 26) (p := 5) (v := ?vo_w14) (w1 := ((((w11.setCell ⟨gb16009, 0, none⟩ (.slice Ao10 t16006.length co10)).setCell ⟨gb16009, 1, none⟩ (.slice none 0 0)).setCell ⟨gb16009, 2, none⟩ (.slice none 0 0)).setCell ⟨gb16009, 3, none⟩ (.bool false))) ?hg ?ho ?hn ?hr ?_; (case ho => rfl); (case hg => rfl); (case hn => rfl); (case hr => exact goR); intro w14 hw; replace HO16004 : Aside0 (Kd.R Kd.string 9 w14 w.heap.size (fun k_ => (w.heap.size ≤ k_) ∧ some k_ ≠ (.slice Ao10 t16006.length co10 : Value).ownBlock) (.slice (some ad16005) t16002.length co8) t16002) := ⟨(by rw [hw]; exact (Kd.R_ext (Kd.R_mono (Kd.R_far (p := ⟨gb16009, 3, none⟩) (Kd.R_far (p := ⟨gb16009, 2, none⟩) (Kd.R_far (p := ⟨gb16009, 1, none⟩) (Kd.R_far (p := ⟨gb16009, 0, none⟩) (Kd.R_types HO16004.out BK16009.out (by decide)) (fun _ hk => hk.2) (.slice Ao10 t16006.length co10)) (fun _ hk => hk.2) (.slice none 0 0)) (fun _ hk => hk.2) (.slice none 0 0)) (fun _ hk => hk.2) (.bool false)) (fun _ hk => ⟨hk.1.1.1, hk.1.2⟩))))⟩; replace HO16008 : Aside0 (Kd.R Kd.string 9 w14 w.heap.size (fun k_ => (w.heap.size ≤ k_) ∧ some k_ ≠ (.slice (some ad16005) t16002.length co8 : Value).ownBlock) (.slice Ao10 t16006.length co10) t16006) := ⟨(by rw [hw]; exact (Kd.R_ext (Kd.R_mono (Kd.R_far (p := ⟨gb16009, 3, none⟩) (Kd.R_far (p := ⟨gb16009, 2, none⟩) (Kd.R_far (p := ⟨gb16009, 1, none⟩) (Kd.R_far (p := ⟨gb16009, 0, none⟩) (Kd.R_types HO16008.out BK16009.out (by decide)) (fun _ hk => hk.2) (.slice Ao10 t16006.length co10)) (fun _ hk => hk.2) (.slice none 0 0)) (fun _ hk => hk.2) (.slice none 0 0)) (fun _ hk => hk.2) (.bool false)) (fun _ hk => ⟨hk.1.1.1, hk.1.2⟩))))⟩; replace BK16001 := bkS hw BK16001; replace BK16009 : Aside0 (w14.heap[gb16009]? = some (.cells #[.slice Ao10 t16006.length co10, .slice none 0 0, .slice none 0 0, .bool false] 26 (0, 0))) := ⟨(by rw [hw]; exact (by (with_reducible repeat (first | refine blk_drewN ?_ _ | refine blk_drew ?_ | refine blk_alloc ?_ _)); refine blk_put (cs := #[.slice Ao10 t16006.length co10, .slice none 0 0, .slice none 0 0, .bool false]) ?_ 3 _ rfl; (with_reducible repeat (first | refine blk_drewN ?_ _ | refine blk_drew ?_ | refine blk_alloc ?_ _)); refine blk_put (cs := #[.slice Ao10 t16006.length co10, .slice none 0 0, .slice none 0 0, .bool false]) ?_ 2 _ rfl; (with_reducible repeat (first | refine blk_drewN ?_ _ | refine blk_drew ?_ | refine blk_alloc ?_ _)); refine blk_put (cs := #[.slice Ao10 t16006.length co10, .slice none 0 0, .slice none 0 0, .bool false]) ?_ 1 _ rfl; (with_reducible repeat (first | refine blk_drewN ?_ _ | refine blk_drew ?_ | refine blk_alloc ?_ _)); refine blk_put (cs := #[.slice none 0 0, .slice none 0 0, .slice none 0 0, .bool false]) ?_ 0 _ rfl; exact blk_ext BK16009.out))⟩; replace HB := hbS hw HB; clear hw; have q15 : (1 : Int) ≤ ((t16002.length : Int) : Int) := odt; obtain ⟨i015, hi015, _, hsz15, _⟩ := info_parts info9; have hroom15 : t16002.length ≤ co8 := (Kd.R_reads' HO16004.out).2.1; have hC15 : Kd.F Kd.string _ _ (some ad16005) t16002.length t16002 := (Kd.V_at (base := w.heap.size) (Kd.R_V (Kd.R_types (Kd.R_types (HO16004.out) BK16001.out (by decide)) BK16009.out (by decide)))).2.2; have hcut15 := cut_from (P := Tryd.prog) 22 9 .i64 Tryd.underlying22 hi015 1 hsz15 (some ad16005) t16002.length co8 1 (by omega) q15; have hr15 := Kd.F_cut (m := (1 : Int).toNat) (c := co8) hC15 (by omega) hroom15; obtain ⟨A15, hA15⟩ : ∃ A1, A1 = (if co8 = (1 : Int).toNat then (some ad16005) else ((some ad16005) : Option Addr).map (·.add ((1 : Int).toNat * 1))) := ⟨_, rfl⟩; obtain ⟨c15, hc15⟩ : ∃ c1, c1 = co8 - (1 : Int).toNat := ⟨_, rfl⟩; have hy15 : y16010.length = t16002.length - (1 : Int).toNat := (by rw [Ny16010.out, List.length_drop] <;> omega); rw [show (t16002).drop (1 : Int).toNat = y16010 from Ny16010.out.symm] at hr15; replace hr15 : Kd.F Kd.string _ _ A15 y16010.length y16010 := (by rw [hA15]; exact hr15); rw [← hy15, ← hA15, ← hc15] at hcut15; have HO16014 := Aside0.mk (show Kd.V Kd.string 9 _ w.heap.size _ (.slice A15 y16010.length c15) y16010 from Kd.V_mk (by rw [hy15, hc15]; exact Nat.sub_le_sub_right hroom15 _) hr15); have HC16014 := Aside0.mk (show y16010.length ≤ c15 from by rw [hy15, hc15]; exact Nat.sub_le_sub_right hroom15 _); clear hr15 hC15 hroom15 hi015 hsz15 hc15; have KY15 := Aside0.mk hy15; have KA15 := Aside0.mk hA15; clear hy15 hA15; replace q15 := eq_true q15))
  go_loopg [26] k (fun kq v26 w' => ∃ (x26_1 : Int) (x16010001_1 : List (S36)) (x16010002_1 : List (S38)) (x16010003_1 : Bool) (u16010001 : Value) (u16010002 : Value), v26 = .int .i64 x26_1 ∧ Aside0 (goods_Parse.l0 kq a0 y16010 (y16010.length : Int) x26_1 t16006 x16010001_1 x16010002_1 x16010003_1 = some (r1, r2, r3, r4, r5)) ∧ Aside0 (kq ≤ k) ∧ Aside0 (Kd.V Kd.string 9 w' w.heap.size (fun k_ => (w.heap.size ≤ k_) ∧ some k_ ≠ ((.slice Ao10 t16006.length co10) : Value).ownBlock ∧ some k_ ≠ (u16010001 : Value).ownBlock ∧ some k_ ≠ (u16010002 : Value).ownBlock ∧ k_ ≠ gb16001 ∧ k_ ≠ gb16009) (.slice A15 y16010.length c15) y16010) ∧ Aside0 (Kd.R Kd.string 9 w' w.heap.size (fun k_ => (w.heap.size ≤ k_)) (.slice Ao10 t16006.length co10) t16006) ∧ Aside0 (Kd.R k36 36 w' w.heap.size (fun k_ => (w.heap.size ≤ k_)) u16010001 x16010001_1) ∧ Aside0 (Kd.N k38 38 w' w.heap.size (fun k_ => (w.heap.size ≤ k_) ∧ some k_ ≠ ((.slice Ao10 t16006.length co10) : Value).ownBlock ∧ some k_ ≠ (u16010001 : Value).ownBlock ∧ k_ ≠ gb16001 ∧ k_ ≠ gb16009) u16010002 x16010002_1) ∧ Aside0 (w'.heap[gb16001]? = some (.cells #[(.slice none 0 0), (.slice none 0 0), (.slice none 0 0), .bool false] 26 (0, 0))) ∧ Aside0 (w'.heap[gb16009]? = some (.cells #[(.slice Ao10 t16006.length co10), u16010001, u16010002, .bool x16010003_1] 26 (0, 0))) ∧ Aside0 (Below w.heap.size w w'))
  case atStart => exact ⟨(0), (([] : List (S36))), (([] : List (S38))), (false), (.slice none 0 0), (.slice none 0 0), rls, H', ⟨Nat.le_refl _⟩, ⟨Kd.V_ext (Kd.V_mono HO16014.out (fun _ hk => ⟨hk.1.1.1, ⟨hk.1.1.2, ⟨(by simp [Value.ownBlock]), ⟨(by simp [Value.ownBlock]), ⟨hk.1.2, hk.2⟩⟩⟩⟩⟩))⟩, ⟨Kd.R_ext (Kd.R_mono HO16008.out (fun _ hk => hk.1))⟩, ⟨by first | exact Kd.R_nil _ _ _ _ _ | exact Kd.N_nil _ _ _ _ _ | exact Kd.V_nil _ _ _ _ _ | exact Kd.Q_nil _ _ _ _ _ | exact Kd.S_nil _ _ _ _ _⟩, ⟨by first | exact Kd.S_nil _ _ _ _ _ | exact Kd.N_nil _ _ _ _ _ | exact Kd.V_nil _ _ _ _ _ | exact Kd.Q_nil _ _ _ _ _ | exact Kd.R_nil _ _ _ _ _⟩, ⟨blk_ext BK16001.out⟩, ⟨blk_ext BK16009.out⟩, ⟨below_extB HB.out⟩⟩
  case round =>
   clear H'
   try clear c1
   try clear p1
   try clear q1
   try clear hx1
   try clear qi1
   try clear p2
   try clear c3
   try clear c3b0
   try clear c3b1
   try clear c5
   try clear c5b0
   try clear c5b1
   try clear c12
   try clear c15
   try clear q15
   try clear hcz13_0 hcz13_1 hcz13_2 hcz13_3
   try clear hfz13_0 hfz13_1 hfz13_2 hfz13_3
   try clear hx16005_0
   try clear p16005
   try clear q15
   try clear q16005
   obtain ⟨x26_1, x16010001_1, x16010002_1, x16010003_1, u16010001, u16010002, rfl, HA, HK1, HO_24, HO_16010000, HO_16010001, HO_16010002, BK16001, BK16009, HB⟩ := hrel
   cases gk with
   | zero => exact absurd HA.out (by simp [goods_Parse.l0])
   | succ k1 =>
    have H := HA.out
    clear HA
    simp only [goods_Parse.l0] at H
    by_cases c16 : x26_1 < (y16010.length : Int)
    ·
     rw [if_pos c16] at H
     have c16b0 : decide (x26_1 < (y16010.length : Int)) = true := decide_eq_true c16
     clear c16
     replace H := if_some H; obtain ⟨c17, H⟩ := H
     have c17b0 : decide (0 ≤ x26_1) = true := decide_eq_true c17
     clear c17
     replace H := if_some H; obtain ⟨c18, H⟩ := H
     have c18b0 : decide (x26_1 < (y16010.length : Int)) = true := decide_eq_true c18
     clear c18
     by_cases c19 : (rdOf ByteArray.empty y16010 x26_1).toList = ([105, 110, 99, 111, 109, 112, 108, 101, 116, 101] : List UInt8)
     ·
      rw [if_pos c19] at H
      have c19b0 : ((rdOf ByteArray.empty y16010 x26_1).toList == ([105, 110, 99, 111, 109, 112, 108, 101, 116, 101] : List UInt8)) = true := beq_iff_eq.mpr c19
      have c19b1 : ((rdOf ByteArray.empty y16010 x26_1).toList != ([105, 110, 99, 111, 109, 112, 108, 101, 116, 101] : List UInt8)) = false := bne_eq_false_iff_eq.mpr c19
      clear c19
      have H' := Aside0.mk H
      clear H
      have p16015 : 0 ≤ (x26_1 : Int) := odt
      have q16015 : x26_1 < (y16010.length : Int) := odt
      obtain ⟨ad16015, e16015, hx16015_0⟩ := Kd.at_string (Kd.V_reads' HO_24.out).2.2 x26_1 p16015 q16015
      cases e16015
      replace p16015 := eq_true p16015
      replace q16015 := eq_true q16015
      have hnb20 := NB16009_16001.out
      have hnc20 := NB16001_16009.out
      obtain ⟨hcz21_0, hcz21_1, hcz21_2, hcz21_3, hfz21_0, hfz21_1, hfz21_2, hfz21_3⟩ := bk4 BK16009.out
      go_wp2
      go_roundg k1
      case measure => have := HK1.out; omega
      case rel => exact ⟨(wrap64 (x26_1 + 1)), (x16010001_1), (x16010002_1), (true), (u16010001), (u16010002), rls, H', ⟨by have := HK1.out; omega⟩, ⟨Kd.V_ext (Kd.V_mono (Kd.V_far (p := ⟨gb16009, 3, none⟩) (Kd.V_mono HO_24.out (fun k_ hk => (⟨hk, hk.2.2.2.2.2⟩ : _ ∧ k_ ≠ gb16009))) (fun _ hk => hk.2) (.bool true)) (fun _ hk => ⟨hk.1.1, ⟨hk.1.2.1, ⟨hk.1.2.2.1, ⟨hk.1.2.2.2.1, ⟨hk.1.2.2.2.2.1, hk.1.2.2.2.2.2⟩⟩⟩⟩⟩))⟩, ⟨Kd.R_ext (Kd.R_mono (Kd.R_far (p := ⟨gb16009, 3, none⟩) (Kd.R_types HO_16010000.out BK16009.out (by decide)) (fun _ hk => hk.2) (.bool true)) (fun _ hk => hk.1))⟩, ⟨Kd.R_ext (Kd.R_mono (Kd.R_far (p := ⟨gb16009, 3, none⟩) (Kd.R_types HO_16010001.out BK16009.out (by decide)) (fun _ hk => hk.2) (.bool true)) (fun _ hk => hk.1))⟩, ⟨Kd.N_ext (Kd.N_mono (Kd.N_far (p := ⟨gb16009, 3, none⟩) (Kd.N_mono HO_16010002.out (fun k_ hk => (⟨hk, hk.2.2.2.2⟩ : _ ∧ k_ ≠ gb16009))) (fun _ hk => hk.2) (.bool true)) (fun _ hk => ⟨hk.1.1, ⟨hk.1.2.1, ⟨hk.1.2.2.1, ⟨hk.1.2.2.2.1, hk.1.2.2.2.2⟩⟩⟩⟩))⟩, ⟨blk_extC BK16001.out⟩, ⟨by (with_reducible repeat (first | refine blk_drewN ?_ _ | refine blk_drew ?_ | refine blk_alloc ?_ _)); refine blk_put (cs := #[.slice Ao10 t16006.length co10, u16010001, u16010002, .bool x16010003_1]) ?_ 3 _ rfl; exact blk_ext BK16009.out⟩, ⟨below_extB HB.out⟩⟩
     ·
      rw [if_neg c19] at H
      have c19b0 : ((rdOf ByteArray.empty y16010 x26_1).toList == ([105, 110, 99, 111, 109, 112, 108, 101, 116, 101] : List UInt8)) = false := beq_eq_false_iff_ne.mpr c19
      have c19b1 : ((rdOf ByteArray.empty y16010 x26_1).toList != ([105, 110, 99, 111, 109, 112, 108, 101, 116, 101] : List UInt8)) = true := bne_iff_ne.mpr c19
      replace H := Option.bind_eq_some_iff.mp H
      obtain ⟨t16016, A220, H⟩ := H
      replace H : (if t16016 = true then (if 2 ≤ ((rdOf ByteArray.empty y16010 x26_1).size : Int) then ((strings_Split.f ((rdOf ByteArray.empty y16010 x26_1).extract 2 (rdOf ByteArray.empty y16010 x26_1).size) (⟨#[44]⟩ : ByteArray)).bind fun t16017 => (goods_Parse.l1 k1 a0 y16010 (y16010.length : Int) x26_1 t16017 (t16017.length : Int) 0 t16006 x16010001_1 x16010002_1 x16010003_1)) else (none)) else ((strings_HasPrefix.f (rdOf ByteArray.empty y16010 x26_1) (⟨#[112, 58]⟩ : ByteArray)).bind fun t16026 => (if t16026 = true then (if 2 ≤ ((rdOf ByteArray.empty y16010 x26_1).size : Int) then ((strings_Split.f ((rdOf ByteArray.empty y16010 x26_1).extract 2 (rdOf ByteArray.empty y16010 x26_1).size) (⟨#[44]⟩ : ByteArray)).bind fun t16027 => (goods_Parse.l2 k1 a0 y16010 (y16010.length : Int) x26_1 t16027 (t16027.length : Int) 0 t16006 x16010001_1 x16010002_1 x16010003_1)) else (none)) else (goods_Parse.l0 k1 a0 y16010 (y16010.length : Int) (wrap64 (x26_1 + 1)) t16006 x16010001_1 x16010002_1 x16010003_1)))) = some (r1, r2, r3, r4, r5) := H
      have A22 := Aside0.mk A220
      clear A220
      by_cases c23 : t16016 = true
      ·
       subst c23
       have H1 : (if 2 ≤ ((rdOf ByteArray.empty y16010 x26_1).size : Int) then ((strings_Split.f ((rdOf ByteArray.empty y16010 x26_1).extract 2 (rdOf ByteArray.empty y16010 x26_1).size) (⟨#[44]⟩ : ByteArray)).bind fun t16017 => (goods_Parse.l1 k1 a0 y16010 (y16010.length : Int) x26_1 t16017 (t16017.length : Int) 0 t16006 x16010001_1 x16010002_1 x16010003_1)) else (none)) = some (r1, r2, r3, r4, r5) := by rw [if_pos rfl] at H; exact H
       clear H
       have H := H1
       clear H1
       replace H := if_some H; obtain ⟨c24, H⟩ := H
       have c24b0 := eq_true c24
       have c24b1 : decide (2 ≤ ((rdOf ByteArray.empty y16010 x26_1).size : Int)) = true := decide_eq_true c24
       clear c24
       replace H := Option.bind_eq_some_iff.mp H
       obtain ⟨t16017, A250, H⟩ := H
       replace H : (goods_Parse.l1 k1 a0 y16010 (y16010.length : Int) x26_1 t16017 (t16017.length : Int) 0 t16006 x16010001_1 x16010002_1 x16010003_1) = some (r1, r2, r3, r4, r5) := H
       have A25 := Aside0.mk A250
       clear A250
       have H' := Aside0.mk H
       clear H
       have p16015 : 0 ≤ (x26_1 : Int) := odt
       have q16015 : x26_1 < (y16010.length : Int) := odt
       obtain ⟨ad16015, e16015, hx16015_0⟩ := Kd.at_string (Kd.V_reads' HO_24.out).2.2 x26_1 p16015 q16015
       cases e16015
       replace p16015 := eq_true p16015
       replace q16015 := eq_true q16015
       go_wp2_with (first | ((with_reducible refine gate_callee (f := 37) rfl ?_); refine goesL_ (some 36) rfl rfl Tryd.func37 (by kernel_rfl) rfl #[.string (rdOf ByteArray.empty y16010 x26_1), .string (⟨#[109, 58]⟩ : ByteArray)] rfl goA ?_; (with_reducible refine (strings_HasPrefix.calls (rdOf ByteArray.empty y16010 x26_1) (⟨#[109, 58]⟩ : ByteArray) true _ A22.out).mono ?_); rintro e w' ⟨rfl, ⟨nd, rfl⟩⟩; refine ⟨_, rfl, ?_⟩) | ((with_reducible refine gate_callee (f := 36) rfl ?_); refine goesL_ (some 39) rfl rfl Tryd.func36 (by kernel_rfl) rfl #[.string ((rdOf ByteArray.empty y16010 x26_1).extract 2 (rdOf ByteArray.empty y16010 x26_1).size), .string (⟨#[44]⟩ : ByteArray)] rfl goA ?_; (with_reducible refine (strings_Split.calls ((rdOf ByteArray.empty y16010 x26_1).extract 2 (rdOf ByteArray.empty y16010 x26_1).size) (⟨#[44]⟩ : ByteArray) t16017 _ A25.out ?side1).mono ?_); (case side1 => exact GL.below HG.out (below_extB HB.out)); rintro e w26 ⟨v16018, rfl, ho0, hb⟩; refine ⟨_, rfl, ?_⟩; have HO16019 := Aside0.mk (Kd.R_lower (Kd.R_new' (Kd.R_newM (M := fun k_ => (w.heap.size ≤ k_)) ho0 (below_size (below_extB HB.out)) (fun k_ h_ => h_)) (Kd.R_lt (Kd.R_ext HO_16010000.out))) (below_size (below_extB HB.out))); replace HO_24 := apV HO_24 hb (Kd.R_base ho0); replace HO_16010000 := apR HO_16010000 hb (Kd.R_base ho0); replace HO_16010001 := mvR HO_16010001 hb; replace HO_16010002 := apN HO_16010002 hb (Kd.R_base ho0); replace BK16001 := mvB BK16001 hb; replace BK16009 := mvB BK16009 hb; replace HB := mvH HB hb; (try clear hb); (try clear hb2); (try clear hk); (try clear hi); (try clear ho0); obtain ⟨Ao27, co27, eo27⟩ := Kd.R_slice HO16019.out; subst eo27))
       go_loopg [41] k1 (fun kq v41 w' => ∃ (x41_2 : Int) (x16010001_2 : List (S36)) (u16010001 : Value), v41 = .int .i64 x41_2 ∧ Aside0 (goods_Parse.l1 kq a0 y16010 (y16010.length : Int) x26_1 t16017 (t16017.length : Int) x41_2 t16006 x16010001_2 x16010002_1 x16010003_1 = some (r1, r2, r3, r4, r5)) ∧ Aside0 (kq ≤ k1) ∧ Aside0 (Kd.V Kd.string 9 w' w.heap.size (fun k_ => (w.heap.size ≤ k_) ∧ some k_ ≠ ((.slice Ao27 t16017.length co27) : Value).ownBlock ∧ some k_ ≠ ((.slice Ao10 t16006.length co10) : Value).ownBlock ∧ some k_ ≠ (u16010001 : Value).ownBlock ∧ some k_ ≠ (u16010002 : Value).ownBlock ∧ k_ ≠ gb16001 ∧ k_ ≠ gb16009) (.slice (some ad16015) y16010.length c15) y16010) ∧ Aside0 (Kd.R Kd.string 9 w' w.heap.size (fun k_ => (w.heap.size ≤ k_) ∧ some k_ ≠ ((.slice Ao10 t16006.length co10) : Value).ownBlock) (.slice Ao27 t16017.length co27) t16017) ∧ Aside0 (Kd.R Kd.string 9 w' w.heap.size (fun k_ => (w.heap.size ≤ k_) ∧ some k_ ≠ ((.slice Ao27 t16017.length co27) : Value).ownBlock) (.slice Ao10 t16006.length co10) t16006) ∧ Aside0 (Kd.R k36 36 w' w.heap.size (fun k_ => (w.heap.size ≤ k_)) u16010001 x16010001_2) ∧ Aside0 (Kd.N k38 38 w' w.heap.size (fun k_ => (w.heap.size ≤ k_) ∧ some k_ ≠ ((.slice Ao27 t16017.length co27) : Value).ownBlock ∧ some k_ ≠ ((.slice Ao10 t16006.length co10) : Value).ownBlock ∧ some k_ ≠ (u16010001 : Value).ownBlock ∧ k_ ≠ gb16001 ∧ k_ ≠ gb16009) u16010002 x16010002_1) ∧ Aside0 (w'.heap[gb16001]? = some (.cells #[(.slice none 0 0), (.slice none 0 0), (.slice none 0 0), .bool false] 26 (0, 0))) ∧ Aside0 (w'.heap[gb16009]? = some (.cells #[(.slice Ao10 t16006.length co10), u16010001, u16010002, .bool x16010003_1] 26 (0, 0))) ∧ Aside0 (Below w.heap.size w w'))
       case atStart => exact ⟨(0), (x16010001_1), (u16010001), rls, H', ⟨Nat.le_refl _⟩, ⟨Kd.V_ext (Kd.V_mono HO_24.out (fun _ hk => ⟨hk.1.1, ⟨hk.2, ⟨hk.1.2.1, ⟨hk.1.2.2.1, ⟨hk.1.2.2.2.1, ⟨hk.1.2.2.2.2.1, hk.1.2.2.2.2.2⟩⟩⟩⟩⟩⟩))⟩, ⟨Kd.R_ext (Kd.R_mono HO16019.out (fun _ hk => ⟨hk.1.1, hk.2⟩))⟩, ⟨Kd.R_ext HO_16010000.out⟩, ⟨Kd.R_ext HO_16010001.out⟩, ⟨Kd.N_ext (Kd.N_mono HO_16010002.out (fun _ hk => ⟨hk.1.1, ⟨hk.2, ⟨hk.1.2.1, ⟨hk.1.2.2.1, ⟨hk.1.2.2.2.1, hk.1.2.2.2.2⟩⟩⟩⟩⟩))⟩, ⟨blk_ext BK16001.out⟩, ⟨blk_ext BK16009.out⟩, ⟨below_extB HB.out⟩⟩
       case round =>
        clear H'
        try clear c1
        try clear p1
        try clear q1
        try clear hx1
        try clear qi1
        try clear c2
        try clear p2
        try clear c3
        try clear c3b0
        try clear c3b1
        try clear c5
        try clear c5b0
        try clear c5b1
        try clear p6
        try clear c12
        try clear c15
        try clear q15
        try clear c16
        try clear c16b0
        try clear p16
        try clear q16
        try clear hx16
        try clear qi16
        try clear c17
        try clear c17b0
        try clear c18
        try clear c18b0
        try clear c19
        try clear c19b0
        try clear c19b1
        try clear c20
        try clear c23
        try clear c24
        try clear c24b0
        try clear c24b1
        try clear hcz13_0 hcz13_1 hcz13_2 hcz13_3
        try clear hcz21_0 hcz21_1 hcz21_2 hcz21_3
        try clear hfz13_0 hfz13_1 hfz13_2 hfz13_3
        try clear hfz21_0 hfz21_1 hfz21_2 hfz21_3
        try clear hx16005_0
        try clear hx16015_0
        try clear p1
        try clear p16005
        try clear p16015
        try clear p2
        try clear q1
        try clear q15
        try clear q16005
        try clear q16015
        obtain ⟨x41_2, x16010001_2, u16010001, rfl, HA, HK2, HO_24, HO_39, HO_16010000, HO_16010001, HO_16010002, BK16001, BK16009, HB⟩ := hrel
        cases gk with
        | zero => exact absurd HA.out (by simp [goods_Parse.l1])
        | succ k2 =>
         have H := HA.out
         clear HA
         simp only [goods_Parse.l1] at H
         by_cases c28 : x41_2 < (t16017.length : Int)
         ·
          rw [if_pos c28] at H
          have c28b0 : decide (x41_2 < (t16017.length : Int)) = true := decide_eq_true c28
          clear c28
          replace H := if_some H; obtain ⟨c29, H⟩ := H
          have c29b0 : decide (0 ≤ x41_2) = true := decide_eq_true c29
          clear c29
          replace H := if_some H; obtain ⟨c30, H⟩ := H
          have c30b0 : decide (x41_2 < (t16017.length : Int)) = true := decide_eq_true c30
          clear c30
          replace H := Option.bind_eq_some_iff.mp H
          obtain ⟨⟨t16021, t16022⟩, A310, H⟩ := H
          replace H : (if x16010001_2.length < 5864062014805 then (goods_Parse.l1 k2 a0 y16010 (y16010.length : Int) x26_1 t16017 (t16017.length : Int) (wrap64 (x41_2 + 1)) t16006 (x16010001_2 ++ [(⟨t16021, t16022⟩ : S36)]) x16010002_1 x16010003_1) else (none)) = some (r1, r2, r3, r4, r5) := H
          have A31 := Aside0.mk A310
          clear A310
          replace H := if_some H; obtain ⟨c32, H⟩ := H
          have LMc32 := Aside0.mk c32
          clear c32
          obtain ⟨y16023, hy16023⟩ : ∃ y_ : List (S36), y_ = (x16010001_2 ++ [(⟨t16021, t16022⟩ : S36)]) := ⟨_, rfl⟩
          replace H : (goods_Parse.l1 k2 a0 y16010 (y16010.length : Int) x26_1 t16017 (t16017.length : Int) (wrap64 (x41_2 + 1)) t16006 y16023 x16010002_1 x16010003_1) = some (r1, r2, r3, r4, r5) := by first | (rw [hy16023]; with_reducible exact H) | (have H2_ := (Option.bind_some _ _).symm.trans H; rw [hy16023]; with_reducible exact H2_) | (have H2_ := (Option.bind_some _ _).symm.trans H; with_reducible exact H2_) | with_reducible exact H | (rw [hy16023]; exact H) | exact H
          have Ny16023 := Aside0.mk hy16023
          clear hy16023
          have H' := Aside0.mk H
          clear H
          have p16020 : 0 ≤ (x41_2 : Int) := odt
          have q16020 : x41_2 < (t16017.length : Int) := odt
          obtain ⟨ad16020, e16020, hx16020_0⟩ := Kd.at_string (Kd.R_reads' HO_39.out).2.2 x41_2 p16020 q16020
          cases e16020
          replace p16020 := eq_true p16020
          replace q16020 := eq_true q16020
          go_wp2_with (first | ((with_reducible refine gate_callee (f := 38) rfl ?_); refine goesL_ (some 47) rfl rfl Tryd.func38 (by kernel_rfl) rfl #[.string (rdOf ByteArray.empty t16017 x41_2)] rfl goA ?_; (with_reducible refine (goods_pair.calls (rdOf ByteArray.empty t16017 x41_2) t16021 t16022 _ A31.out ?side1).mono ?_); (case side1 => exact GL.below HG.out (below_extB HB.out)); rintro e w33 ⟨rfl, hb⟩; refine ⟨_, rfl, ?_⟩; replace HO_24 := mvV HO_24 hb; replace HO_39 := mvR HO_39 hb; replace HO_16010000 := mvR HO_16010000 hb; replace HO_16010001 := mvR HO_16010001 hb; replace HO_16010002 := mvN HO_16010002 hb; replace BK16001 := mvB BK16001 hb; replace BK16009 := mvB BK16009 hb; replace HB := mvH HB hb; (try clear hb); (try clear hb2); (try clear hk); (try clear hi); have hnb34 := NB16009_16001.out; have hnc34 := NB16001_16009.out; obtain ⟨hcz35_0, hcz35_1, hcz35_2, hcz35_3, hfz35_0, hfz35_1, hfz35_2, hfz35_3⟩ := bk4 BK16009.out) | ((with_reducible refine gate_builtin (b := .append) (xs := #[.tmp 51, .tmp 55]) rfl ?_); at_builtin; refine Kd.R_append k36 (w0 := w) w.heap.size rfl (.tmp 51) (.tmp 55) 23 36 (.agg #[(.string ⟨#[]⟩), (.int .i64 0)]) 24 rfl Tryd.underlying23 info36 rfl (by decide) (by omega) u16010001 x16010001_2 (⟨t16021, t16022⟩ : S36) [.string t16021, .int .i64 t16022] (fun k_ => (w.heap.size ≤ k_)) (fun _ => False) rfl rfl ?aP (fun _ hk => hk.elim) ?aF ?aO ?aB ?aS ?aL ?_; (case aP => exact k36_mkM _ _ _ (⟨t16021, t16022⟩ : S36)); (case aB => exact (below_extB HB.out)); (case aF => exact (fun k_ hk => (Nat.le_trans (below_size (below_extB HB.out)) hk))); (case aO => exact (Kd.R_ext HO_16010001.out)); (case aS => exact (below_size (below_extB HB.out))); (case aL => have := LMc32.out; omega); intro v16024 w36 ho hb hg hat; rw [← Ny16023.out] at ho; replace HO_24 := Aside0.mk (Kd.V_afterv (ok := (fun k_ => (w.heap.size ≤ k_) ∧ some k_ ≠ (.slice (some ad16020) t16017.length co27 : Value).ownBlock ∧ some k_ ≠ (.slice Ao10 t16006.length co10 : Value).ownBlock ∧ some k_ ≠ (u16010002 : Value).ownBlock ∧ k_ ≠ gb16001 ∧ k_ ≠ gb16009)) (Kd.V_ext (Kd.V_mono HO_24.out (fun _ hk => ⟨⟨hk.1, ⟨hk.2.1, ⟨hk.2.2.1, ⟨hk.2.2.2.2.1, ⟨hk.2.2.2.2.2.1, hk.2.2.2.2.2.2⟩⟩⟩⟩⟩, hk.2.2.2.1⟩))) hg hat); replace HO_39 := Aside0.mk (Kd.R_over' (Kd.R_ext HO_39.out) (Kd.R_typed (Kd.R_ext HO_16010001.out)) (by decide) hg); replace HO_16010000 := Aside0.mk (Kd.R_over' (Kd.R_ext HO_16010000.out) (Kd.R_typed (Kd.R_ext HO_16010001.out)) (by decide) hg); replace HO_16010002 := Aside0.mk (Kd.N_afterv (ok := (fun k_ => (w.heap.size ≤ k_) ∧ some k_ ≠ (.slice (some ad16020) t16017.length co27 : Value).ownBlock ∧ some k_ ≠ (.slice Ao10 t16006.length co10 : Value).ownBlock ∧ k_ ≠ gb16001 ∧ k_ ≠ gb16009)) (Kd.N_ext (Kd.N_mono HO_16010002.out (fun _ hk => ⟨⟨hk.1, ⟨hk.2.1, ⟨hk.2.2.1, ⟨hk.2.2.2.2.1, hk.2.2.2.2.2⟩⟩⟩⟩, hk.2.2.2.1⟩))) hg hat); replace BK16001 := Aside0.mk (blk_grown (g := gb16001) (o := .cells #[.slice none 0 0, .slice none 0 0, .slice none 0 0, .bool false] 26 (0, 0)) (blk_ext BK16001.out) hg (Kd.R_ne HO_16010001.out BK16001.out (by decide))); replace BK16009 := Aside0.mk (blk_grown (g := gb16009) (o := .cells #[.slice Ao10 t16006.length co10, u16010001, u16010002, .bool x16010003_1] 26 (0, 0)) (blk_ext BK16009.out) hg (Kd.R_ne HO_16010001.out BK16009.out (by decide))); replace HB := Aside0.mk (hb); have HO16025 := Aside0.mk (ho); clear HO_16010001; clear ho hb hg hat; obtain ⟨Ao37, co37, eo37⟩ := Kd.R_slice HO16025.out; subst eo37; obtain ⟨hcz38_0, hcz38_1, hcz38_2, hcz38_3, hfz38_0, hfz38_1, hfz38_2, hfz38_3⟩ := bk4 BK16009.out))
          go_roundg k2
          case measure => have := HK1.out; have := HK2.out; omega
          case rel => exact ⟨(wrap64 (x41_2 + 1)), (y16023), (.slice Ao37 y16023.length co37), rls, H', ⟨by have := HK1.out; have := HK2.out; omega⟩, ⟨Kd.V_ext (Kd.V_mono (Kd.V_far (p := ⟨gb16009, 1, none⟩) (Kd.V_mono HO_24.out (fun k_ hk => (⟨hk, hk.1.2.2.2.2.2⟩ : _ ∧ k_ ≠ gb16009))) (fun _ hk => hk.2) (.slice Ao37 y16023.length co37)) (fun _ hk => ⟨hk.1.1.1, ⟨hk.1.1.2.1, ⟨hk.1.1.2.2.1, ⟨hk.1.2, ⟨hk.1.1.2.2.2.1, ⟨hk.1.1.2.2.2.2.1, hk.1.1.2.2.2.2.2⟩⟩⟩⟩⟩⟩))⟩, ⟨Kd.R_ext (Kd.R_mono (Kd.R_far (p := ⟨gb16009, 1, none⟩) (Kd.R_types HO_39.out BK16009.out (by decide)) (fun _ hk => hk.2) (.slice Ao37 y16023.length co37)) (fun _ hk => ⟨hk.1.1, hk.1.2⟩))⟩, ⟨Kd.R_ext (Kd.R_mono (Kd.R_far (p := ⟨gb16009, 1, none⟩) (Kd.R_types HO_16010000.out BK16009.out (by decide)) (fun _ hk => hk.2) (.slice Ao37 y16023.length co37)) (fun _ hk => ⟨hk.1.1, hk.1.2⟩))⟩, ⟨Kd.R_ext (Kd.R_mono (Kd.R_far (p := ⟨gb16009, 1, none⟩) (Kd.R_types HO16025.out BK16009.out (by decide)) (fun _ hk => hk.2) (.slice Ao37 y16023.length co37)) (fun _ hk => hk.1))⟩, ⟨Kd.N_ext (Kd.N_mono (Kd.N_far (p := ⟨gb16009, 1, none⟩) (Kd.N_mono HO_16010002.out (fun k_ hk => (⟨hk, hk.1.2.2.2.2⟩ : _ ∧ k_ ≠ gb16009))) (fun _ hk => hk.2) (.slice Ao37 y16023.length co37)) (fun _ hk => ⟨hk.1.1.1, ⟨hk.1.1.2.1, ⟨hk.1.1.2.2.1, ⟨hk.1.2, ⟨hk.1.1.2.2.2.1, hk.1.1.2.2.2.2⟩⟩⟩⟩⟩))⟩, ⟨blk_extC BK16001.out⟩, ⟨by (with_reducible repeat (first | refine blk_drewN ?_ _ | refine blk_drew ?_ | refine blk_alloc ?_ _)); refine blk_put (cs := #[.slice Ao10 t16006.length co10, u16010001, u16010002, .bool x16010003_1]) ?_ 1 _ rfl; exact blk_ext BK16009.out⟩, ⟨below_extB HB.out⟩⟩
         ·
          rw [if_neg c28] at H
          have c28b0 : decide (x41_2 < (t16017.length : Int)) = false := decide_eq_false c28
          clear c28
          have H' := Aside0.mk H
          clear H
          go_wp2
          go_roundg k2
          case measure => have := HK1.out; have := HK2.out; omega
          case rel => exact ⟨(wrap64 (x26_1 + 1)), (x16010001_2), (x16010002_1), (x16010003_1), (u16010001), (u16010002), rls, H', ⟨by have := HK1.out; have := HK2.out; omega⟩, ⟨Kd.V_ext (Kd.V_mono HO_24.out (fun _ hk => ⟨hk.1, ⟨hk.2.2.1, ⟨hk.2.2.2.1, ⟨hk.2.2.2.2.1, ⟨hk.2.2.2.2.2.1, hk.2.2.2.2.2.2⟩⟩⟩⟩⟩))⟩, ⟨Kd.R_ext (Kd.R_mono HO_16010000.out (fun _ hk => hk.1))⟩, ⟨Kd.R_ext HO_16010001.out⟩, ⟨Kd.N_ext (Kd.N_mono HO_16010002.out (fun _ hk => ⟨hk.1, ⟨hk.2.2.1, ⟨hk.2.2.2.1, ⟨hk.2.2.2.2.1, hk.2.2.2.2.2⟩⟩⟩⟩))⟩, ⟨blk_ext BK16001.out⟩, ⟨blk_ext BK16009.out⟩, ⟨below_extB HB.out⟩⟩
      ·
       replace c23 := Bool.eq_false_iff.mpr c23
       subst c23
       have H1 : ((strings_HasPrefix.f (rdOf ByteArray.empty y16010 x26_1) (⟨#[112, 58]⟩ : ByteArray)).bind fun t16026 => (if t16026 = true then (if 2 ≤ ((rdOf ByteArray.empty y16010 x26_1).size : Int) then ((strings_Split.f ((rdOf ByteArray.empty y16010 x26_1).extract 2 (rdOf ByteArray.empty y16010 x26_1).size) (⟨#[44]⟩ : ByteArray)).bind fun t16027 => (goods_Parse.l2 k1 a0 y16010 (y16010.length : Int) x26_1 t16027 (t16027.length : Int) 0 t16006 x16010001_1 x16010002_1 x16010003_1)) else (none)) else (goods_Parse.l0 k1 a0 y16010 (y16010.length : Int) (wrap64 (x26_1 + 1)) t16006 x16010001_1 x16010002_1 x16010003_1))) = some (r1, r2, r3, r4, r5) := by rw [if_neg (show ¬ (false = true) by decide)] at H; exact H
       clear H
       have H := H1
       clear H1
       replace H := Option.bind_eq_some_iff.mp H
       obtain ⟨t16026, A390, H⟩ := H
       replace H : (if t16026 = true then (if 2 ≤ ((rdOf ByteArray.empty y16010 x26_1).size : Int) then ((strings_Split.f ((rdOf ByteArray.empty y16010 x26_1).extract 2 (rdOf ByteArray.empty y16010 x26_1).size) (⟨#[44]⟩ : ByteArray)).bind fun t16027 => (goods_Parse.l2 k1 a0 y16010 (y16010.length : Int) x26_1 t16027 (t16027.length : Int) 0 t16006 x16010001_1 x16010002_1 x16010003_1)) else (none)) else (goods_Parse.l0 k1 a0 y16010 (y16010.length : Int) (wrap64 (x26_1 + 1)) t16006 x16010001_1 x16010002_1 x16010003_1)) = some (r1, r2, r3, r4, r5) := H
       have A39 := Aside0.mk A390
       clear A390
       by_cases c40 : t16026 = true
       ·
        subst c40
        have H1 : (if 2 ≤ ((rdOf ByteArray.empty y16010 x26_1).size : Int) then ((strings_Split.f ((rdOf ByteArray.empty y16010 x26_1).extract 2 (rdOf ByteArray.empty y16010 x26_1).size) (⟨#[44]⟩ : ByteArray)).bind fun t16027 => (goods_Parse.l2 k1 a0 y16010 (y16010.length : Int) x26_1 t16027 (t16027.length : Int) 0 t16006 x16010001_1 x16010002_1 x16010003_1)) else (none)) = some (r1, r2, r3, r4, r5) := by rw [if_pos rfl] at H; exact H
        clear H
        have H := H1
        clear H1
        replace H := if_some H; obtain ⟨c41, H⟩ := H
        have c41b0 := eq_true c41
        have c41b1 : decide (2 ≤ ((rdOf ByteArray.empty y16010 x26_1).size : Int)) = true := decide_eq_true c41
        clear c41
        replace H := Option.bind_eq_some_iff.mp H
        obtain ⟨t16027, A420, H⟩ := H
        replace H : (goods_Parse.l2 k1 a0 y16010 (y16010.length : Int) x26_1 t16027 (t16027.length : Int) 0 t16006 x16010001_1 x16010002_1 x16010003_1) = some (r1, r2, r3, r4, r5) := H
        have A42 := Aside0.mk A420
        clear A420
        have H' := Aside0.mk H
        clear H
        have p16015 : 0 ≤ (x26_1 : Int) := odt
        have q16015 : x26_1 < (y16010.length : Int) := odt
        obtain ⟨ad16015, e16015, hx16015_0⟩ := Kd.at_string (Kd.V_reads' HO_24.out).2.2 x26_1 p16015 q16015
        cases e16015
        replace p16015 := eq_true p16015
        replace q16015 := eq_true q16015
        go_wp2_with (first | ((with_reducible refine gate_callee (f := 37) rfl ?_); refine goesL_ (some 36) rfl rfl Tryd.func37 (by kernel_rfl) rfl #[.string (rdOf ByteArray.empty y16010 x26_1), .string (⟨#[109, 58]⟩ : ByteArray)] rfl goA ?_; (with_reducible refine (strings_HasPrefix.calls (rdOf ByteArray.empty y16010 x26_1) (⟨#[109, 58]⟩ : ByteArray) false _ A22.out).mono ?_); rintro e w' ⟨rfl, ⟨nd, rfl⟩⟩; refine ⟨_, rfl, ?_⟩) | ((with_reducible refine gate_callee (f := 37) rfl ?_); refine goesL_ (some 61) rfl rfl Tryd.func37 (by kernel_rfl) rfl #[.string (rdOf ByteArray.empty y16010 x26_1), .string (⟨#[112, 58]⟩ : ByteArray)] rfl goA ?_; (with_reducible refine (strings_HasPrefix.calls (rdOf ByteArray.empty y16010 x26_1) (⟨#[112, 58]⟩ : ByteArray) true _ A39.out).mono ?_); rintro e w' ⟨rfl, ⟨nd, rfl⟩⟩; refine ⟨_, rfl, ?_⟩) | ((with_reducible refine gate_callee (f := 36) rfl ?_); refine goesL_ (some 64) rfl rfl Tryd.func36 (by kernel_rfl) rfl #[.string ((rdOf ByteArray.empty y16010 x26_1).extract 2 (rdOf ByteArray.empty y16010 x26_1).size), .string (⟨#[44]⟩ : ByteArray)] rfl goA ?_; (with_reducible refine (strings_Split.calls ((rdOf ByteArray.empty y16010 x26_1).extract 2 (rdOf ByteArray.empty y16010 x26_1).size) (⟨#[44]⟩ : ByteArray) t16027 _ A42.out ?side1).mono ?_); (case side1 => exact GL.below HG.out (below_extB HB.out)); rintro e w43 ⟨v16028, rfl, ho0, hb⟩; refine ⟨_, rfl, ?_⟩; have HO16029 := Aside0.mk (Kd.R_lower (Kd.R_new' (Kd.R_newM (M := fun k_ => (w.heap.size ≤ k_)) ho0 (below_size (below_extB HB.out)) (fun k_ h_ => h_)) (Kd.R_lt (Kd.R_ext HO_16010000.out))) (below_size (below_extB HB.out))); replace HO_24 := apV HO_24 hb (Kd.R_base ho0); replace HO_16010000 := apR HO_16010000 hb (Kd.R_base ho0); replace HO_16010001 := mvR HO_16010001 hb; replace HO_16010002 := apN HO_16010002 hb (Kd.R_base ho0); replace BK16001 := mvB BK16001 hb; replace BK16009 := mvB BK16009 hb; replace HB := mvH HB hb; (try clear hb); (try clear hb2); (try clear hk); (try clear hi); (try clear ho0); obtain ⟨Ao44, co44, eo44⟩ := Kd.R_slice HO16029.out; subst eo44))
        go_loopg [66] k1 (fun kq v66 w' => ∃ (x66_2 : Int) (x16010002_2 : List (S38)) (u16010002 : Value), v66 = .int .i64 x66_2 ∧ Aside0 (goods_Parse.l2 kq a0 y16010 (y16010.length : Int) x26_1 t16027 (t16027.length : Int) x66_2 t16006 x16010001_1 x16010002_2 x16010003_1 = some (r1, r2, r3, r4, r5)) ∧ Aside0 (kq ≤ k1) ∧ Aside0 (Kd.V Kd.string 9 w' w.heap.size (fun k_ => (w.heap.size ≤ k_) ∧ some k_ ≠ ((.slice Ao44 t16027.length co44) : Value).ownBlock ∧ some k_ ≠ ((.slice Ao10 t16006.length co10) : Value).ownBlock ∧ some k_ ≠ (u16010001 : Value).ownBlock ∧ some k_ ≠ (u16010002 : Value).ownBlock ∧ k_ ≠ gb16001 ∧ k_ ≠ gb16009) (.slice (some ad16015) y16010.length c15) y16010) ∧ Aside0 (Kd.R Kd.string 9 w' w.heap.size (fun k_ => (w.heap.size ≤ k_) ∧ some k_ ≠ ((.slice Ao10 t16006.length co10) : Value).ownBlock) (.slice Ao44 t16027.length co44) t16027) ∧ Aside0 (Kd.R Kd.string 9 w' w.heap.size (fun k_ => (w.heap.size ≤ k_) ∧ some k_ ≠ ((.slice Ao44 t16027.length co44) : Value).ownBlock) (.slice Ao10 t16006.length co10) t16006) ∧ Aside0 (Kd.R k36 36 w' w.heap.size (fun k_ => (w.heap.size ≤ k_)) u16010001 x16010001_1) ∧ Aside0 (Kd.N k38 38 w' w.heap.size (fun k_ => (w.heap.size ≤ k_) ∧ some k_ ≠ ((.slice Ao44 t16027.length co44) : Value).ownBlock ∧ some k_ ≠ ((.slice Ao10 t16006.length co10) : Value).ownBlock ∧ some k_ ≠ (u16010001 : Value).ownBlock ∧ k_ ≠ gb16001 ∧ k_ ≠ gb16009) u16010002 x16010002_2) ∧ Aside0 (w'.heap[gb16001]? = some (.cells #[(.slice none 0 0), (.slice none 0 0), (.slice none 0 0), .bool false] 26 (0, 0))) ∧ Aside0 (w'.heap[gb16009]? = some (.cells #[(.slice Ao10 t16006.length co10), u16010001, u16010002, .bool x16010003_1] 26 (0, 0))) ∧ Aside0 (Below w.heap.size w w'))
        case atStart => exact ⟨(0), (x16010002_1), (u16010002), rls, H', ⟨Nat.le_refl _⟩, ⟨Kd.V_ext (Kd.V_mono HO_24.out (fun _ hk => ⟨hk.1.1, ⟨hk.2, ⟨hk.1.2.1, ⟨hk.1.2.2.1, ⟨hk.1.2.2.2.1, ⟨hk.1.2.2.2.2.1, hk.1.2.2.2.2.2⟩⟩⟩⟩⟩⟩))⟩, ⟨Kd.R_ext (Kd.R_mono HO16029.out (fun _ hk => ⟨hk.1.1, hk.2⟩))⟩, ⟨Kd.R_ext HO_16010000.out⟩, ⟨Kd.R_ext HO_16010001.out⟩, ⟨Kd.N_ext (Kd.N_mono HO_16010002.out (fun _ hk => ⟨hk.1.1, ⟨hk.2, ⟨hk.1.2.1, ⟨hk.1.2.2.1, ⟨hk.1.2.2.2.1, hk.1.2.2.2.2⟩⟩⟩⟩⟩))⟩, ⟨blk_ext BK16001.out⟩, ⟨blk_ext BK16009.out⟩, ⟨below_extB HB.out⟩⟩
        case round =>
         clear H'
         try clear c1
         try clear p1
         try clear q1
         try clear hx1
         try clear qi1
         try clear c2
         try clear p2
         try clear c3
         try clear c3b0
         try clear c3b1
         try clear c4
         try clear c5
         try clear c5b0
         try clear c5b1
         try clear p6
         try clear c12
         try clear c15
         try clear q15
         try clear c16
         try clear c16b0
         try clear p16
         try clear q16
         try clear hx16
         try clear qi16
         try clear c17
         try clear c17b0
         try clear c18
         try clear c18b0
         try clear c19
         try clear c19b0
         try clear c19b1
         try clear c20
         try clear c23
         try clear c24
         try clear c24b0
         try clear c24b1
         try clear c28
         try clear c28b0
         try clear c29
         try clear c29b0
         try clear c30
         try clear c30b0
         try clear c32
         try clear c34
         try clear c36
         try clear c37
         try clear c38
         try clear c40
         try clear c41
         try clear c41b0
         try clear c41b1
         try clear hcz13_0 hcz13_1 hcz13_2 hcz13_3
         try clear hcz21_0 hcz21_1 hcz21_2 hcz21_3
         try clear hcz35_0 hcz35_1 hcz35_2 hcz35_3
         try clear hcz38_0 hcz38_1 hcz38_2 hcz38_3
         try clear hfz13_0 hfz13_1 hfz13_2 hfz13_3
         try clear hfz21_0 hfz21_1 hfz21_2 hfz21_3
         try clear hfz35_0 hfz35_1 hfz35_2 hfz35_3
         try clear hfz38_0 hfz38_1 hfz38_2 hfz38_3
         try clear hx16005_0
         try clear hx16015_0
         try clear hx16020_0
         try clear p1
         try clear p16
         try clear p16005
         try clear p16015
         try clear p16020
         try clear p2
         try clear p6
         try clear q1
         try clear q15
         try clear q16
         try clear q16005
         try clear q16015
         try clear q16020
         obtain ⟨x66_2, x16010002_2, u16010002, rfl, HA, HK2, HO_24, HO_64, HO_16010000, HO_16010001, HO_16010002, BK16001, BK16009, HB⟩ := hrel
         cases gk with
         | zero => exact absurd HA.out (by simp [goods_Parse.l2])
         | succ k2 =>
          have H := HA.out
          clear HA
          simp only [goods_Parse.l2] at H
          by_cases c45 : x66_2 < (t16027.length : Int)
          ·
           rw [if_pos c45] at H
           have c45b0 : decide (x66_2 < (t16027.length : Int)) = true := decide_eq_true c45
           clear c45
           replace H := if_some H; obtain ⟨c46, H⟩ := H
           have c46b0 : decide (0 ≤ x66_2) = true := decide_eq_true c46
           clear c46
           replace H := if_some H; obtain ⟨c47, H⟩ := H
           have c47b0 : decide (x66_2 < (t16027.length : Int)) = true := decide_eq_true c47
           clear c47
           replace H := Option.bind_eq_some_iff.mp H
           obtain ⟨⟨t16031, t16032⟩, A480, H⟩ := H
           replace H : ((strings_Split.f t16031 (⟨#[43]⟩ : ByteArray)).bind fun t16033 => (if x16010002_2.length < 4398046511104 then (goods_Parse.l2 k2 a0 y16010 (y16010.length : Int) x26_1 t16027 (t16027.length : Int) (wrap64 (x66_2 + 1)) t16006 x16010001_1 (x16010002_2 ++ [(⟨t16033, t16032⟩ : S38)]) x16010003_1) else (none))) = some (r1, r2, r3, r4, r5) := H
           have A48 := Aside0.mk A480
           clear A480
           replace H := Option.bind_eq_some_iff.mp H
           obtain ⟨t16033, A490, H⟩ := H
           replace H : (if x16010002_2.length < 4398046511104 then (goods_Parse.l2 k2 a0 y16010 (y16010.length : Int) x26_1 t16027 (t16027.length : Int) (wrap64 (x66_2 + 1)) t16006 x16010001_1 (x16010002_2 ++ [(⟨t16033, t16032⟩ : S38)]) x16010003_1) else (none)) = some (r1, r2, r3, r4, r5) := H
           have A49 := Aside0.mk A490
           clear A490
           replace H := if_some H; obtain ⟨c50, H⟩ := H
           have LMc50 := Aside0.mk c50
           clear c50
           obtain ⟨y16036, hy16036⟩ : ∃ y_ : List (S38), y_ = (x16010002_2 ++ [(⟨t16033, t16032⟩ : S38)]) := ⟨_, rfl⟩
           replace H : (goods_Parse.l2 k2 a0 y16010 (y16010.length : Int) x26_1 t16027 (t16027.length : Int) (wrap64 (x66_2 + 1)) t16006 x16010001_1 y16036 x16010003_1) = some (r1, r2, r3, r4, r5) := by first | (rw [hy16036]; with_reducible exact H) | (have H2_ := (Option.bind_some _ _).symm.trans H; rw [hy16036]; with_reducible exact H2_) | (have H2_ := (Option.bind_some _ _).symm.trans H; with_reducible exact H2_) | with_reducible exact H | (rw [hy16036]; exact H) | exact H
           have Ny16036 := Aside0.mk hy16036
           clear hy16036
           have H' := Aside0.mk H
           clear H
           have p16030 : 0 ≤ (x66_2 : Int) := odt
           have q16030 : x66_2 < (t16027.length : Int) := odt
           obtain ⟨ad16030, e16030, hx16030_0⟩ := Kd.at_string (Kd.R_reads' HO_64.out).2.2 x66_2 p16030 q16030
           cases e16030
           replace p16030 := eq_true p16030
           replace q16030 := eq_true q16030
           try go_wp2_with (first | ((with_reducible refine gate_callee (f := 38) rfl ?_); refine goesL_ (some 72) rfl rfl Tryd.func38 (by kernel_rfl) rfl #[.string (rdOf ByteArray.empty t16027 x66_2)] rfl goA ?_; (with_reducible refine (goods_pair.calls (rdOf ByteArray.empty t16027 x66_2) t16031 t16032 _ A48.out ?side1).mono ?_); (case side1 => exact GL.below HG.out (below_extB HB.out)); rintro e w51 ⟨rfl, hb⟩; refine ⟨_, rfl, ?_⟩; replace HO_24 := mvV HO_24 hb; replace HO_64 := mvR HO_64 hb; replace HO_16010000 := mvR HO_16010000 hb; replace HO_16010001 := mvR HO_16010001 hb; replace HO_16010002 := mvN HO_16010002 hb; replace BK16001 := mvB BK16001 hb; replace BK16009 := mvB BK16009 hb; replace HB := mvH HB hb; (try clear hb); (try clear hb2); (try clear hk); (try clear hi)))
           replace HO_24 := Aside0.mk (Kd.V_drew HO_24.out)
           replace HO_64 := Aside0.mk (Kd.R_drew HO_64.out)
           replace HO_16010000 := Aside0.mk (Kd.R_drew HO_16010000.out)
           replace HO_16010001 := Aside0.mk (Kd.R_drew HO_16010001.out)
           replace HO_16010002 := Aside0.mk (Kd.N_drew HO_16010002.out)
           replace BK16001 := Aside0.mk (blk_drew BK16001.out)
           replace BK16009 := Aside0.mk (blk_drew BK16009.out)
           replace HB := Aside0.mk (below_drew1 HB.out)
           refine start_ (n := 10) (S := fun w' => w'.cell? ⟨gb16009, 0, none⟩ = some (.slice Ao10 t16006.length co10) ∧ w'.cell? ⟨gb16009, 1, none⟩ = some (u16010001) ∧ w'.cell? ⟨gb16009, 2, none⟩ = some (u16010002) ∧ w'.cell? ⟨gb16009, 3, none⟩ = some (.bool x16010003_1)) (ds := [9]) #[false, false, false, false, false, false, false, false, false, false] (by kernel_rfl) rfl rfl ⟨bc BK16009 0, bc BK16009 1, bc BK16009 2, bc BK16009 3⟩ (fun hHeld => ?_); refine with_tabW goods_Parse.tab20 goods_Parse.bits20 (fun HT_ HW_ => ?_)
           generalize w51.drew = w52 at HO_24 HO_64 HO_16010000 HO_16010001 HO_16010002 BK16001 BK16009 HB hHeld ⊢
           refine purE 0 (some 75) HT_ ?_
           refine purE 2 (some 77) HT_ ?_
           refine purE 4 (some 79) HT_ ?_
           refine tkE 1 (some 76) HT_ HW_ hHeld ?_ (hy := by rintro w' ⟨s0, s1, s2, s3⟩; go_simp; with_reducible rfl)
           refine oneE 3 (some 78) HT_ (fun K hK => ?_)
           refine goes_ Tryd.func36 (by kernel_rfl) rfl #[.string t16031, .string (⟨#[43]⟩ : ByteArray)] (by rfl) rfl rfl goB ?_
           with_reducible refine (strings_Split.calls t16031 (⟨#[43]⟩ : ByteArray) t16033 _ A49.out ?side1).mono ?_
           (case side1 => exact GL.below HG.out (below_extB HB.out))
           rintro e w53 ⟨v16034, rfl, ho0, hb⟩
           refine ⟨_, rfl, ?_⟩
           have HO16035 := Aside0.mk (Kd.R_lower (Kd.R_new' (Kd.R_new' (Kd.R_newM (M := fun k_ => (w.heap.size ≤ k_)) ho0 (below_size (below_extB HB.out)) (fun k_ h_ => h_)) (Kd.R_lt (Kd.R_ext HO_64.out))) (Kd.R_lt (Kd.R_ext HO_16010000.out))) (below_size (below_extB HB.out)))
           replace HO_24 := apV HO_24 hb (Kd.R_base ho0)
           replace HO_64 := apR HO_64 hb (Kd.R_base ho0)
           replace HO_16010000 := apR HO_16010000 hb (Kd.R_base ho0)
           replace HO_16010001 := mvR HO_16010001 hb
           replace HO_16010002 := apN HO_16010002 hb (Kd.R_base ho0)
           replace BK16001 := mvB BK16001 hb
           replace BK16009 := mvB BK16009 hb
           replace HB := mvH HB hb
           (try clear hb)
           (try clear hb2)
           (try clear hk)
           (try clear hi)
           (try clear ho0)
           obtain ⟨Ao54, co54, eo54⟩ := Kd.R_slice HO16035.out
           (first | subst eo54 | (injection eo54 with f1_ f2_ f3_; have f4_ := f1_.symm; have f5_ := f3_.symm; clear f1_ f2_ f3_; subst f4_; subst f5_))
           refine hK.out _ _ ⟨bc BK16009 0, bc BK16009 1, bc BK16009 2, bc BK16009 3⟩ (fun hHeld => ?_)
           clear hK K
           refine nrmE (some 78) ?_
           refine purE 5 (some 80) HT_ ?_
           refine oneE 6 (some 81) HT_ (fun K hK => ?_)
           refine value_ (w1 := ?_) (v := ?_) (by rfl) rfl ?_ ?_
           rotate_left 2
           ·
            go_simp
            constructor
            ·
             rfl
            ·
             rfl
           refine hK.out _ _ ⟨(blk_cell (blk_alloc BK16009.out _) 0).trans rfl, (blk_cell (blk_alloc BK16009.out _) 1).trans rfl, (blk_cell (blk_alloc BK16009.out _) 2).trans rfl, (blk_cell (blk_alloc BK16009.out _) 3).trans rfl⟩ (fun hHeld => ?_)
           clear hK K
           refine nrmE (some 81) ?_
           refine oneE 7 (some 82) HT_ (fun K hK => ?_)
           refine Kd.N_append_step k38 (w0 := w) w.heap.size (by rfl) (.tmp 76) (.tmp 81) 24 38 (.agg #[(.slice none 0 0), (.int .i64 0)]) 32 rfl Tryd.underlying24 info38 rfl (by decide) (by omega) u16010002 x16010002_2 (⟨t16033, t16032⟩ : S38) [.slice Ao54 t16033.length co54, .int .i64 t16032] (fun k_ => (w.heap.size ≤ k_) ∧ some k_ ≠ (.slice (some ad16030) t16027.length co44 : Value).ownBlock ∧ some k_ ≠ (.slice Ao10 t16006.length co10 : Value).ownBlock ∧ some k_ ≠ (u16010001 : Value).ownBlock ∧ k_ ≠ gb16001 ∧ k_ ≠ gb16009) (fun k_ => ((fun k_ => (w.heap.size ≤ k_) ∧ some k_ ≠ (.slice (some ad16030) t16027.length co44 : Value).ownBlock ∧ some k_ ≠ (.slice Ao10 t16006.length co10 : Value).ownBlock ∧ some k_ ≠ (u16010001 : Value).ownBlock ∧ k_ ≠ gb16001 ∧ k_ ≠ gb16009)) k_ ∧ some k_ ≠ (u16010002 : Value).ownBlock) rfl rfl ?aP (fun _ hk => hk) ?aF ?aO ?aB ?aS ?aL ?_
           (case aP => exact (k38_mkF _ _ (⟨t16033, t16032⟩ : S38) (Kd.R_reads' (Kd.R_mono (ok' := (fun k_ => ((fun k_ => (w.heap.size ≤ k_) ∧ some k_ ≠ (.slice (some ad16030) t16027.length co44 : Value).ownBlock ∧ some k_ ≠ (.slice Ao10 t16006.length co10 : Value).ownBlock ∧ some k_ ≠ (u16010001 : Value).ownBlock ∧ k_ ≠ gb16001 ∧ k_ ≠ gb16009)) k_ ∧ some k_ ≠ (u16010002 : Value).ownBlock)) (Kd.R_types (Kd.R_types (Kd.R_apart' (Kd.R_apart' (HO16035.out) (Kd.R_typed HO_16010001.out) (by decide)) (Kd.N_typed HO_16010002.out) (by decide)) BK16001.out (by decide)) BK16009.out (by decide)) (fun k_ hk => ⟨⟨hk.1.1.1.1.1.1.1, ⟨hk.1.1.1.1.1.2, ⟨hk.1.1.1.1.2, ⟨hk.1.1.1.2, ⟨hk.1.2, hk.2⟩⟩⟩⟩⟩, hk.1.1.2⟩))).2.1 (Kd.R_F (Kd.R_mono (ok' := (fun k_ => ((fun k_ => (w.heap.size ≤ k_) ∧ some k_ ≠ (.slice (some ad16030) t16027.length co44 : Value).ownBlock ∧ some k_ ≠ (.slice Ao10 t16006.length co10 : Value).ownBlock ∧ some k_ ≠ (u16010001 : Value).ownBlock ∧ k_ ≠ gb16001 ∧ k_ ≠ gb16009)) k_ ∧ some k_ ≠ (u16010002 : Value).ownBlock)) (Kd.R_types (Kd.R_types (Kd.R_apart' (Kd.R_apart' (HO16035.out) (Kd.R_typed HO_16010001.out) (by decide)) (Kd.N_typed HO_16010002.out) (by decide)) BK16001.out (by decide)) BK16009.out (by decide)) (fun k_ hk => ⟨⟨hk.1.1.1.1.1.1.1, ⟨hk.1.1.1.1.1.2, ⟨hk.1.1.1.1.2, ⟨hk.1.1.1.2, ⟨hk.1.2, hk.2⟩⟩⟩⟩⟩, hk.1.1.2⟩)))))
           (case aB => exact (below_extB HB.out))
           (case aF => exact (fun k_ hk => ⟨(Nat.le_trans (below_size (below_extB HB.out)) hk), Kd.fresh' (Kd.R_lt (Kd.R_ext HO_64.out)) k_ hk, Kd.fresh' (Kd.R_lt (Kd.R_ext HO_16010000.out)) k_ hk, Kd.fresh' (Kd.R_lt (Kd.R_ext HO_16010001.out)) k_ hk, Kd.freshB (g := gb16001) (o := .cells #[.slice none 0 0, .slice none 0 0, .slice none 0 0, .bool false] 26 (0, 0)) (blk_ext BK16001.out) k_ hk, Kd.freshB (g := gb16009) (o := .cells #[.slice Ao10 t16006.length co10, u16010001, u16010002, .bool x16010003_1] 26 (0, 0)) (blk_ext BK16009.out) k_ hk⟩))
           (case aO => exact (Kd.N_ext (Kd.N_mono HO_16010002.out (fun _ hk => ⟨hk.1.1, ⟨hk.1.2.1, ⟨hk.1.2.2.1, ⟨hk.1.2.2.2.1, ⟨hk.1.2.2.2.2.1, hk.1.2.2.2.2.2⟩⟩⟩⟩⟩))))
           (case aS => exact (below_size (below_extB HB.out)))
           (case aL => have := LMc50.out; omega)
           intro v16037 w55 ho hb hg hat
           rw [← Ny16036.out] at ho
           replace HO_24 := Aside0.mk (Kd.V_afterv (ok := (fun k_ => (w.heap.size ≤ k_) ∧ some k_ ≠ (.slice (some ad16030) t16027.length co44 : Value).ownBlock ∧ some k_ ≠ (.slice Ao10 t16006.length co10 : Value).ownBlock ∧ some k_ ≠ (u16010001 : Value).ownBlock ∧ some k_ ≠ (.slice Ao54 t16033.length co54 : Value).ownBlock ∧ k_ ≠ gb16001 ∧ k_ ≠ gb16009)) (Kd.V_ext (Kd.V_mono HO_24.out (fun _ hk => ⟨⟨hk.1.1, ⟨hk.1.2.1, ⟨hk.1.2.2.1, ⟨hk.1.2.2.2.1, ⟨hk.2, ⟨hk.1.2.2.2.2.2.1, hk.1.2.2.2.2.2.2⟩⟩⟩⟩⟩⟩, hk.1.2.2.2.2.1⟩))) hg hat)
           replace HO_64 := Aside0.mk (Kd.R_over' (Kd.R_ext HO_64.out) (Kd.N_typed (Kd.N_ext HO_16010002.out)) (by decide) hg)
           replace HO_16010000 := Aside0.mk (Kd.R_over' (Kd.R_ext HO_16010000.out) (Kd.N_typed (Kd.N_ext HO_16010002.out)) (by decide) hg)
           replace HO_16010001 := Aside0.mk (Kd.R_over' (Kd.R_ext HO_16010001.out) (Kd.N_typed (Kd.N_ext HO_16010002.out)) (by decide) hg)
           replace BK16001 := Aside0.mk (blk_grown (g := gb16001) (o := .cells #[.slice none 0 0, .slice none 0 0, .slice none 0 0, .bool false] 26 (0, 0)) (blk_ext BK16001.out) hg (Kd.N_ne HO_16010002.out BK16001.out (by decide)))
           replace BK16009 := Aside0.mk (blk_grown (g := gb16009) (o := .cells #[.slice Ao10 t16006.length co10, u16010001, u16010002, .bool x16010003_1] 26 (0, 0)) (blk_ext BK16009.out) hg (Kd.N_ne HO_16010002.out BK16009.out (by decide)))
           replace HB := Aside0.mk (hb)
           have HO16038 := Aside0.mk (ho)
           clear HO_16010002
           clear HO16035
           clear ho hb hg hat
           obtain ⟨Ao56, co56, eo56⟩ := Kd.N_slice HO16038.out
           (first | subst eo56 | (injection eo56 with f1_ f2_ f3_; have f4_ := f1_.symm; have f5_ := f3_.symm; clear f1_ f2_ f3_; subst f4_; subst f5_))
           refine hK.out _ _ ⟨bc BK16009 0, bc BK16009 1, bc BK16009 2, bc BK16009 3⟩ (fun hHeld => ?_)
           clear hK K
           refine nrmE (some 82) ?_
           refine purE 8 (some 83) HT_ ?_
           refine last_ (i := 9) (N := none) #[true, true, true, true, true, true, true, true, true, true] rfl rfl (one_of HT_.out (by kernel_rfl)) (by decide) (fun K hK => ?_)
           have hs57 : w55.cell? ⟨gb16009, 2, none⟩ = some (u16010002) := (blk_cell BK16009.out 2).trans rfl
           have hfs57 := blk_frozen BK16009.out 2
           have hns57_0 := NB16001_16009.out
           have hms57_0 := NB16009_16001.out
           refine skip_ (w1 := ?_) (by rfl) rfl ?_ ?_
           rotate_left
           ·
            go_simp
            rfl
           refine hK.out _ _ ?_
           clear hK K
           refine done_ (done_of HT_.out (by kernel_rfl)) ?_
           try go_wp2
           go_roundg k2
           case measure => have := HK1.out; have := HK2.out; omega
           case rel => exact ⟨(wrap64 (x66_2 + 1)), (y16036), (.slice Ao56 y16036.length co56), rls, H', ⟨by have := HK1.out; have := HK2.out; omega⟩, ⟨Kd.V_ext (Kd.V_mono (Kd.V_far (p := ⟨gb16009, 2, none⟩) (Kd.V_mono HO_24.out (fun k_ hk => (⟨hk, hk.1.2.2.2.2.2.2⟩ : _ ∧ k_ ≠ gb16009))) (fun _ hk => hk.2) (.slice Ao56 y16036.length co56)) (fun _ hk => ⟨hk.1.1.1, ⟨hk.1.1.2.1, ⟨hk.1.1.2.2.1, ⟨hk.1.1.2.2.2.1, ⟨hk.1.2, ⟨hk.1.1.2.2.2.2.2.1, hk.1.1.2.2.2.2.2.2⟩⟩⟩⟩⟩⟩))⟩, ⟨Kd.R_ext (Kd.R_mono (Kd.R_far (p := ⟨gb16009, 2, none⟩) (Kd.R_types HO_64.out BK16009.out (by decide)) (fun _ hk => hk.2) (.slice Ao56 y16036.length co56)) (fun _ hk => ⟨hk.1.1.1, hk.1.1.2⟩))⟩, ⟨Kd.R_ext (Kd.R_mono (Kd.R_far (p := ⟨gb16009, 2, none⟩) (Kd.R_types HO_16010000.out BK16009.out (by decide)) (fun _ hk => hk.2) (.slice Ao56 y16036.length co56)) (fun _ hk => ⟨hk.1.1.1, hk.1.1.2⟩))⟩, ⟨Kd.R_ext (Kd.R_mono (Kd.R_far (p := ⟨gb16009, 2, none⟩) (Kd.R_types HO_16010001.out BK16009.out (by decide)) (fun _ hk => hk.2) (.slice Ao56 y16036.length co56)) (fun _ hk => hk.1))⟩, ⟨Kd.N_ext (Kd.N_mono (Kd.N_far (p := ⟨gb16009, 2, none⟩) (Kd.N_mono HO16038.out (fun k_ hk => (⟨hk, hk.2.2.2.2.2⟩ : _ ∧ k_ ≠ gb16009))) (fun _ hk => hk.2) (.slice Ao56 y16036.length co56)) (fun _ hk => ⟨hk.1.1, ⟨hk.1.2.1, ⟨hk.1.2.2.1, ⟨hk.1.2.2.2.1, ⟨hk.1.2.2.2.2.1, hk.1.2.2.2.2.2⟩⟩⟩⟩⟩))⟩, ⟨blk_extC BK16001.out⟩, ⟨by (with_reducible repeat (first | refine blk_drewN ?_ _ | refine blk_drew ?_ | refine blk_alloc ?_ _)); refine blk_put (cs := #[.slice Ao10 t16006.length co10, u16010001, u16010002, .bool x16010003_1]) ?_ 2 _ rfl; exact blk_ext BK16009.out⟩, ⟨below_extB HB.out⟩⟩
          ·
           rw [if_neg c45] at H
           have c45b0 : decide (x66_2 < (t16027.length : Int)) = false := decide_eq_false c45
           clear c45
           have H' := Aside0.mk H
           clear H
           go_wp2
           go_roundg k2
           case measure => have := HK1.out; have := HK2.out; omega
           case rel => exact ⟨(wrap64 (x26_1 + 1)), (x16010001_1), (x16010002_2), (x16010003_1), (u16010001), (u16010002), rls, H', ⟨by have := HK1.out; have := HK2.out; omega⟩, ⟨Kd.V_ext (Kd.V_mono HO_24.out (fun _ hk => ⟨hk.1, ⟨hk.2.2.1, ⟨hk.2.2.2.1, ⟨hk.2.2.2.2.1, ⟨hk.2.2.2.2.2.1, hk.2.2.2.2.2.2⟩⟩⟩⟩⟩))⟩, ⟨Kd.R_ext (Kd.R_mono HO_16010000.out (fun _ hk => hk.1))⟩, ⟨Kd.R_ext HO_16010001.out⟩, ⟨Kd.N_ext (Kd.N_mono HO_16010002.out (fun _ hk => ⟨hk.1, ⟨hk.2.2.1, ⟨hk.2.2.2.1, ⟨hk.2.2.2.2.1, hk.2.2.2.2.2⟩⟩⟩⟩))⟩, ⟨blk_ext BK16001.out⟩, ⟨blk_ext BK16009.out⟩, ⟨below_extB HB.out⟩⟩
       ·
        replace c40 := Bool.eq_false_iff.mpr c40
        subst c40
        have H1 : (goods_Parse.l0 k1 a0 y16010 (y16010.length : Int) (wrap64 (x26_1 + 1)) t16006 x16010001_1 x16010002_1 x16010003_1) = some (r1, r2, r3, r4, r5) := by rw [if_neg (show ¬ (false = true) by decide)] at H; exact H
        clear H
        have H := H1
        clear H1
        have H' := Aside0.mk H
        clear H
        have p16015 : 0 ≤ (x26_1 : Int) := odt
        have q16015 : x26_1 < (y16010.length : Int) := odt
        obtain ⟨ad16015, e16015, hx16015_0⟩ := Kd.at_string (Kd.V_reads' HO_24.out).2.2 x26_1 p16015 q16015
        cases e16015
        replace p16015 := eq_true p16015
        replace q16015 := eq_true q16015
        go_wp2_with (first | ((with_reducible refine gate_callee (f := 37) rfl ?_); refine goesL_ (some 36) rfl rfl Tryd.func37 (by kernel_rfl) rfl #[.string (rdOf ByteArray.empty y16010 x26_1), .string (⟨#[109, 58]⟩ : ByteArray)] rfl goA ?_; (with_reducible refine (strings_HasPrefix.calls (rdOf ByteArray.empty y16010 x26_1) (⟨#[109, 58]⟩ : ByteArray) false _ A22.out).mono ?_); rintro e w' ⟨rfl, ⟨nd, rfl⟩⟩; refine ⟨_, rfl, ?_⟩) | ((with_reducible refine gate_callee (f := 37) rfl ?_); refine goesL_ (some 61) rfl rfl Tryd.func37 (by kernel_rfl) rfl #[.string (rdOf ByteArray.empty y16010 x26_1), .string (⟨#[112, 58]⟩ : ByteArray)] rfl goA ?_; (with_reducible refine (strings_HasPrefix.calls (rdOf ByteArray.empty y16010 x26_1) (⟨#[112, 58]⟩ : ByteArray) false _ A39.out).mono ?_); rintro e w' ⟨rfl, ⟨nd, rfl⟩⟩; refine ⟨_, rfl, ?_⟩))
        go_roundg k1
        case measure => have := HK1.out; omega
        case rel => exact ⟨(wrap64 (x26_1 + 1)), (x16010001_1), (x16010002_1), (x16010003_1), (u16010001), (u16010002), rls, H', ⟨by have := HK1.out; omega⟩, ⟨Kd.V_ext HO_24.out⟩, ⟨Kd.R_ext HO_16010000.out⟩, ⟨Kd.R_ext HO_16010001.out⟩, ⟨Kd.N_ext HO_16010002.out⟩, ⟨blk_ext BK16001.out⟩, ⟨blk_ext BK16009.out⟩, ⟨below_extB HB.out⟩⟩
    ·
     rw [if_neg c16] at H
     have c16b0 : decide (x26_1 < (y16010.length : Int)) = false := decide_eq_false c16
     clear c16
     replace H := Option.bind_eq_some_iff.mp H
     obtain ⟨t16039, A580, H⟩ := H
     replace H : (if t16039 = 0 then ((goods_Format.f k1 t16006 x16010001_1 x16010002_1 x16010003_1).bind fun t16040 => (if t16040.toList = a0.toList then (some (t16006, x16010001_1, x16010002_1, x16010003_1, 0)) else (some (([] : List ByteArray), ([] : List (S36)), ([] : List (S38)), false, 4)))) else (some (([] : List ByteArray), ([] : List (S36)), ([] : List (S38)), false, 4))) = some (r1, r2, r3, r4, r5) := H
     have A58 := Aside0.mk A580
     clear A580
     by_cases c59 : t16039 = 0
     ·
      rw [if_pos c59] at H
      have c59b0 : (t16039 == 0) = true := beq_iff_eq.mpr c59
      have c59b1 : (t16039 != 0) = false := bne_eq_false_iff_eq.mpr c59
      clear c59
      replace H := Option.bind_eq_some_iff.mp H
      obtain ⟨t16040, A600, H⟩ := H
      replace H : (if t16040.toList = a0.toList then (some (t16006, x16010001_1, x16010002_1, x16010003_1, 0)) else (some (([] : List ByteArray), ([] : List (S36)), ([] : List (S38)), false, 4))) = some (r1, r2, r3, r4, r5) := H
      have A60 := Aside0.mk A600
      clear A600
      by_cases c61 : t16040.toList = a0.toList
      ·
       rw [if_pos c61] at H
       have c61b0 : (t16040.toList == a0.toList) = true := beq_iff_eq.mpr c61
       have c61b1 : (t16040.toList != a0.toList) = false := bne_eq_false_iff_eq.mpr c61
       clear c61
       simp only [Option.some.injEq, Prod.mk.injEq] at H
       obtain ⟨rfl, rfl, rfl, rfl, rfl⟩ := H
       have hnb62 := NB16009_16001.out
       have hnc62 := NB16001_16009.out
       obtain ⟨hcz63_0, hcz63_1, hcz63_2, hcz63_3, hfz63_0, hfz63_1, hfz63_2, hfz63_3⟩ := bk4 BK16009.out
       obtain ⟨Ao64, co64, eo64⟩ := Kd.R_slice HO_16010001.out
       subst eo64
       obtain ⟨Ao65, co65, eo65⟩ := Kd.N_slice HO_16010002.out
       subst eo65
       go_wp2_with (first | ((with_reducible refine gate_callee (f := 10) rfl ?_); refine goesL_ (some 87) rfl rfl Tryd.func10 (by kernel_rfl) rfl #[.agg #[.slice Ao10 t16006.length co10, .slice Ao64 x16010001_1.length co64, .slice Ao65 x16010002_1.length co65, .bool x16010003_1]] rfl goA ?_; (with_reducible refine (goods_Validate.calls k1 _ _ t16006 _ _ x16010001_1 _ _ x16010002_1 x16010003_1 t16039 _ ?side1 ?side2 ?side3 ?side4 ?side5 ?side6 A58.out).mono ?_); (case side1 => exact Kd.C_ext (Kd.R_reads' HO_16010000.out).2.2); (case side2 => exact (Kd.R_reads' HO_16010000.out).2.1); (case side3 => exact Kd.C_ext (Kd.R_reads' HO_16010001.out).2.2); (case side4 => exact (Kd.R_reads' HO_16010001.out).2.1); (case side5 => exact Kd.C_ext (Kd.N_reads' HO_16010002.out).2.2); (case side6 => exact (Kd.N_reads' HO_16010002.out).2.1); rintro e w66 ⟨rfl, hb⟩; refine ⟨_, rfl, ?_⟩; replace HO_24 := mvV HO_24 hb; replace HO_16010000 := mvR HO_16010000 hb; replace HO_16010001 := mvR HO_16010001 hb; replace HO_16010002 := mvN HO_16010002 hb; replace BK16001 := mvB BK16001 hb; replace BK16009 := mvB BK16009 hb; replace HB := mvH HB hb; (try clear hb); (try clear hb2); (try clear hk); (try clear hi); obtain ⟨hcz67_0, hcz67_1, hcz67_2, hcz67_3, hfz67_0, hfz67_1, hfz67_2, hfz67_3⟩ := bk4 BK16009.out) | (go_at_call 14; (with_reducible refine (goods_Format.calls k1 _ _ t16006 _ _ x16010001_1 _ _ x16010002_1 x16010003_1 t16040 _ ?side1 ?side2 ?side3 ?side4 ?side5 ?side6 A60.out ?side7).mono ?_); (case side1 => exact Kd.C_ext (Kd.R_reads' HO_16010000.out).2.2); (case side2 => exact (Kd.R_reads' HO_16010000.out).2.1); (case side3 => exact Kd.C_ext (Kd.R_reads' HO_16010001.out).2.2); (case side4 => exact (Kd.R_reads' HO_16010001.out).2.1); (case side5 => exact Kd.C_ext (Kd.N_reads' HO_16010002.out).2.2); (case side6 => exact (Kd.N_reads' HO_16010002.out).2.1); (case side7 => exact GL.below HG.out (below_extB HB.out)); rintro e w68 ⟨rfl, hb⟩; replace HO_24 := mvV HO_24 hb; replace HO_16010000 := mvR HO_16010000 hb; replace HO_16010001 := mvR HO_16010001 hb; replace HO_16010002 := mvN HO_16010002 hb; replace BK16001 := mvB BK16001 hb; replace BK16009 := mvB BK16009 hb; replace HB := mvH HB hb; (try clear hb); (try clear hb2); (try clear hk); (try clear hi); obtain ⟨hcz69_0, hcz69_1, hcz69_2, hcz69_3, hfz69_0, hfz69_1, hfz69_2, hfz69_3⟩ := bk4 BK16009.out; obtain ⟨hcz70_0, hcz70_1, hcz70_2, hcz70_3, hfz70_0, hfz70_1, hfz70_2, hfz70_3⟩ := bk4 BK16001.out))
       refine bodyPost_ret (results_ct rfl _ _ gb16001 26 #[.slice Ao10 t16006.length co10, .slice Ao64 x16010001_1.length co64, .slice Ao65 x16010002_1.length co65, .bool x16010003_1] (0, 0) _ rfl (by (with_reducible repeat (first | refine blk_drewN ?_ _ | refine blk_drew ?_ | refine blk_alloc ?_ _)); refine blk_put (cs := #[.slice Ao10 t16006.length co10, .slice Ao64 x16010001_1.length co64, .slice Ao65 x16010002_1.length co65, .bool false]) ?_ 3 _ rfl; (with_reducible repeat (first | refine blk_drewN ?_ _ | refine blk_drew ?_ | refine blk_alloc ?_ _)); refine blk_put (cs := #[.slice Ao10 t16006.length co10, .slice Ao64 x16010001_1.length co64, .slice none 0 0, .bool false]) ?_ 2 _ rfl; (with_reducible repeat (first | refine blk_drewN ?_ _ | refine blk_drew ?_ | refine blk_alloc ?_ _)); refine blk_put (cs := #[.slice Ao10 t16006.length co10, .slice none 0 0, .slice none 0 0, .bool false]) ?_ 1 _ rfl; (with_reducible repeat (first | refine blk_drewN ?_ _ | refine blk_drew ?_ | refine blk_alloc ?_ _)); refine blk_put (cs := #[.slice none 0 0, .slice none 0 0, .slice none 0 0, .bool false]) ?_ 0 _ rfl; exact blk_ext BK16001.out) Tryd.underlying26 rfl (by kernel_rfl)) rfl ?_
       exact ⟨_, _, _, by first | rfl | (simp [errW_none, errW_some] <;> rfl) | (simp [*, errW_none, errW_some] <;> rfl), Kd.R_ext (Kd.R_mono (Kd.R_far (p := ⟨gb16001, 3, none⟩) (Kd.R_far (p := ⟨gb16001, 2, none⟩) (Kd.R_far (p := ⟨gb16001, 1, none⟩) (Kd.R_far (p := ⟨gb16001, 0, none⟩) (Kd.R_types HO_16010000.out BK16001.out (by decide)) (fun _ hk => hk.2) (.slice Ao10 t16006.length co10)) (fun _ hk => hk.2) (.slice Ao64 x16010001_1.length co64)) (fun _ hk => hk.2) (.slice Ao65 x16010002_1.length co65)) (fun _ hk => hk.2) (.bool x16010003_1)) (fun _ hk => hk.1)), Kd.R_ext (Kd.R_mono (Kd.R_far (p := ⟨gb16001, 3, none⟩) (Kd.R_far (p := ⟨gb16001, 2, none⟩) (Kd.R_far (p := ⟨gb16001, 1, none⟩) (Kd.R_far (p := ⟨gb16001, 0, none⟩) (Kd.R_types HO_16010001.out BK16001.out (by decide)) (fun _ hk => hk.2) (.slice Ao10 t16006.length co10)) (fun _ hk => hk.2) (.slice Ao64 x16010001_1.length co64)) (fun _ hk => hk.2) (.slice Ao65 x16010002_1.length co65)) (fun _ hk => hk.2) (.bool x16010003_1)) (fun _ hk => hk.1)), Kd.N_ext (Kd.N_mono (Kd.N_far (p := ⟨gb16001, 3, none⟩) (Kd.N_far (p := ⟨gb16001, 2, none⟩) (Kd.N_far (p := ⟨gb16001, 1, none⟩) (Kd.N_far (p := ⟨gb16001, 0, none⟩) (Kd.N_mono HO_16010002.out (fun k_ hk => (⟨hk, hk.2.2.2.1⟩ : _ ∧ k_ ≠ gb16001))) (fun _ hk => hk.2) (.slice Ao10 t16006.length co10)) (fun _ hk => hk.2) (.slice Ao64 x16010001_1.length co64)) (fun _ hk => hk.2) (.slice Ao65 x16010002_1.length co65)) (fun _ hk => hk.2) (.bool x16010003_1)) (fun _ hk => ⟨hk.1.1, ⟨hk.1.2.1, hk.1.2.2.1⟩⟩)), below_extB HB.out⟩
      ·
       rw [if_neg c61] at H
       have c61b0 : (t16040.toList == a0.toList) = false := beq_eq_false_iff_ne.mpr c61
       have c61b1 : (t16040.toList != a0.toList) = true := bne_iff_ne.mpr c61
       simp only [Option.some.injEq, Prod.mk.injEq] at H
       obtain ⟨rfl, rfl, rfl, rfl, rfl⟩ := H
       have hnb71 := NB16009_16001.out
       have hnc71 := NB16001_16009.out
       obtain ⟨hcz72_0, hcz72_1, hcz72_2, hcz72_3, hfz72_0, hfz72_1, hfz72_2, hfz72_3⟩ := bk4 BK16009.out
       obtain ⟨Ao73, co73, eo73⟩ := Kd.R_slice HO_16010001.out
       subst eo73
       obtain ⟨Ao74, co74, eo74⟩ := Kd.N_slice HO_16010002.out
       subst eo74
       go_wp2_with (first | ((with_reducible refine gate_callee (f := 10) rfl ?_); refine goesL_ (some 87) rfl rfl Tryd.func10 (by kernel_rfl) rfl #[.agg #[.slice Ao10 t16006.length co10, .slice Ao73 x16010001_1.length co73, .slice Ao74 x16010002_1.length co74, .bool x16010003_1]] rfl goA ?_; (with_reducible refine (goods_Validate.calls k1 _ _ t16006 _ _ x16010001_1 _ _ x16010002_1 x16010003_1 t16039 _ ?side1 ?side2 ?side3 ?side4 ?side5 ?side6 A58.out).mono ?_); (case side1 => exact Kd.C_ext (Kd.R_reads' HO_16010000.out).2.2); (case side2 => exact (Kd.R_reads' HO_16010000.out).2.1); (case side3 => exact Kd.C_ext (Kd.R_reads' HO_16010001.out).2.2); (case side4 => exact (Kd.R_reads' HO_16010001.out).2.1); (case side5 => exact Kd.C_ext (Kd.N_reads' HO_16010002.out).2.2); (case side6 => exact (Kd.N_reads' HO_16010002.out).2.1); rintro e w75 ⟨rfl, hb⟩; refine ⟨_, rfl, ?_⟩; replace HO_24 := mvV HO_24 hb; replace HO_16010000 := mvR HO_16010000 hb; replace HO_16010001 := mvR HO_16010001 hb; replace HO_16010002 := mvN HO_16010002 hb; replace BK16001 := mvB BK16001 hb; replace BK16009 := mvB BK16009 hb; replace HB := mvH HB hb; (try clear hb); (try clear hb2); (try clear hk); (try clear hi); obtain ⟨hcz76_0, hcz76_1, hcz76_2, hcz76_3, hfz76_0, hfz76_1, hfz76_2, hfz76_3⟩ := bk4 BK16009.out) | (go_at_call 14; (with_reducible refine (goods_Format.calls k1 _ _ t16006 _ _ x16010001_1 _ _ x16010002_1 x16010003_1 t16040 _ ?side1 ?side2 ?side3 ?side4 ?side5 ?side6 A60.out ?side7).mono ?_); (case side1 => exact Kd.C_ext (Kd.R_reads' HO_16010000.out).2.2); (case side2 => exact (Kd.R_reads' HO_16010000.out).2.1); (case side3 => exact Kd.C_ext (Kd.R_reads' HO_16010001.out).2.2); (case side4 => exact (Kd.R_reads' HO_16010001.out).2.1); (case side5 => exact Kd.C_ext (Kd.N_reads' HO_16010002.out).2.2); (case side6 => exact (Kd.N_reads' HO_16010002.out).2.1); (case side7 => exact GL.below HG.out (below_extB HB.out)); rintro e w77 ⟨rfl, hb⟩; replace HO_24 := mvV HO_24 hb; replace HO_16010000 := mvR HO_16010000 hb; replace HO_16010001 := mvR HO_16010001 hb; replace HO_16010002 := mvN HO_16010002 hb; replace BK16001 := mvB BK16001 hb; replace BK16009 := mvB BK16009 hb; replace HB := mvH HB hb; (try clear hb); (try clear hb2); (try clear hk); (try clear hi); obtain ⟨hcz78_0, hcz78_1, hcz78_2, hcz78_3, hfz78_0, hfz78_1, hfz78_2, hfz78_3⟩ := bk4 BK16001.out))
       refine bodyPost_ret (results_ct rfl _ _ gb16001 26 #[.slice none 0 0, .slice none 0 0, .slice none 0 0, .bool false] (0, 0) _ rfl (by (with_reducible repeat (first | refine blk_drewN ?_ _ | refine blk_drew ?_ | refine blk_alloc ?_ _)); refine blk_put (cs := #[.slice none 0 0, .slice none 0 0, .slice none 0 0, .bool false]) ?_ 3 _ rfl; (with_reducible repeat (first | refine blk_drewN ?_ _ | refine blk_drew ?_ | refine blk_alloc ?_ _)); refine blk_put (cs := #[.slice none 0 0, .slice none 0 0, .slice none 0 0, .bool false]) ?_ 2 _ rfl; (with_reducible repeat (first | refine blk_drewN ?_ _ | refine blk_drew ?_ | refine blk_alloc ?_ _)); refine blk_put (cs := #[.slice none 0 0, .slice none 0 0, .slice none 0 0, .bool false]) ?_ 1 _ rfl; (with_reducible repeat (first | refine blk_drewN ?_ _ | refine blk_drew ?_ | refine blk_alloc ?_ _)); refine blk_put (cs := #[.slice none 0 0, .slice none 0 0, .slice none 0 0, .bool false]) ?_ 0 _ rfl; exact blk_ext BK16001.out) Tryd.underlying26 rfl (by kernel_rfl)) rfl ?_
       exact ⟨_, _, _, by first | rfl | (simp [errW_none, errW_some] <;> rfl) | (simp [*, errW_none, errW_some] <;> rfl), by first | exact Kd.R_nil _ _ _ _ _ | exact Kd.N_nil _ _ _ _ _ | exact Kd.V_nil _ _ _ _ _ | exact Kd.Q_nil _ _ _ _ _ | exact Kd.S_nil _ _ _ _ _, by first | exact Kd.R_nil _ _ _ _ _ | exact Kd.N_nil _ _ _ _ _ | exact Kd.V_nil _ _ _ _ _ | exact Kd.Q_nil _ _ _ _ _ | exact Kd.S_nil _ _ _ _ _, by first | exact Kd.S_nil _ _ _ _ _ | exact Kd.N_nil _ _ _ _ _ | exact Kd.V_nil _ _ _ _ _ | exact Kd.Q_nil _ _ _ _ _ | exact Kd.R_nil _ _ _ _ _, below_extB HB.out⟩
     ·
      rw [if_neg c59] at H
      have c59b0 : (t16039 == 0) = false := beq_eq_false_iff_ne.mpr c59
      have c59b1 : (t16039 != 0) = true := bne_iff_ne.mpr c59
      simp only [Option.some.injEq, Prod.mk.injEq] at H
      obtain ⟨rfl, rfl, rfl, rfl, rfl⟩ := H
      have hnb79 := NB16009_16001.out
      have hnc79 := NB16001_16009.out
      obtain ⟨hcz80_0, hcz80_1, hcz80_2, hcz80_3, hfz80_0, hfz80_1, hfz80_2, hfz80_3⟩ := bk4 BK16009.out
      obtain ⟨Ao81, co81, eo81⟩ := Kd.R_slice HO_16010001.out
      subst eo81
      obtain ⟨Ao82, co82, eo82⟩ := Kd.N_slice HO_16010002.out
      subst eo82
      go_wp2_with (first | ((with_reducible refine gate_callee (f := 10) rfl ?_); refine goesL_ (some 87) rfl rfl Tryd.func10 (by kernel_rfl) rfl #[.agg #[.slice Ao10 t16006.length co10, .slice Ao81 x16010001_1.length co81, .slice Ao82 x16010002_1.length co82, .bool x16010003_1]] rfl goA ?_; (with_reducible refine (goods_Validate.calls k1 _ _ t16006 _ _ x16010001_1 _ _ x16010002_1 x16010003_1 t16039 _ ?side1 ?side2 ?side3 ?side4 ?side5 ?side6 A58.out).mono ?_); (case side1 => exact Kd.C_ext (Kd.R_reads' HO_16010000.out).2.2); (case side2 => exact (Kd.R_reads' HO_16010000.out).2.1); (case side3 => exact Kd.C_ext (Kd.R_reads' HO_16010001.out).2.2); (case side4 => exact (Kd.R_reads' HO_16010001.out).2.1); (case side5 => exact Kd.C_ext (Kd.N_reads' HO_16010002.out).2.2); (case side6 => exact (Kd.N_reads' HO_16010002.out).2.1); rintro e w83 ⟨rfl, hb⟩; refine ⟨_, rfl, ?_⟩; replace HO_24 := mvV HO_24 hb; replace HO_16010000 := mvR HO_16010000 hb; replace HO_16010001 := mvR HO_16010001 hb; replace HO_16010002 := mvN HO_16010002 hb; replace BK16001 := mvB BK16001 hb; replace BK16009 := mvB BK16009 hb; replace HB := mvH HB hb; (try clear hb); (try clear hb2); (try clear hk); (try clear hi); obtain ⟨hcz84_0, hcz84_1, hcz84_2, hcz84_3, hfz84_0, hfz84_1, hfz84_2, hfz84_3⟩ := bk4 BK16001.out))
      refine bodyPost_ret (results_ct rfl _ _ gb16001 26 #[.slice none 0 0, .slice none 0 0, .slice none 0 0, .bool false] (0, 0) _ rfl (by (with_reducible repeat (first | refine blk_drewN ?_ _ | refine blk_drew ?_ | refine blk_alloc ?_ _)); refine blk_put (cs := #[.slice none 0 0, .slice none 0 0, .slice none 0 0, .bool false]) ?_ 3 _ rfl; (with_reducible repeat (first | refine blk_drewN ?_ _ | refine blk_drew ?_ | refine blk_alloc ?_ _)); refine blk_put (cs := #[.slice none 0 0, .slice none 0 0, .slice none 0 0, .bool false]) ?_ 2 _ rfl; (with_reducible repeat (first | refine blk_drewN ?_ _ | refine blk_drew ?_ | refine blk_alloc ?_ _)); refine blk_put (cs := #[.slice none 0 0, .slice none 0 0, .slice none 0 0, .bool false]) ?_ 1 _ rfl; (with_reducible repeat (first | refine blk_drewN ?_ _ | refine blk_drew ?_ | refine blk_alloc ?_ _)); refine blk_put (cs := #[.slice none 0 0, .slice none 0 0, .slice none 0 0, .bool false]) ?_ 0 _ rfl; exact blk_ext BK16001.out) Tryd.underlying26 rfl (by kernel_rfl)) rfl ?_
      exact ⟨_, _, _, by first | rfl | (simp [errW_none, errW_some] <;> rfl) | (simp [*, errW_none, errW_some] <;> rfl), by first | exact Kd.R_nil _ _ _ _ _ | exact Kd.N_nil _ _ _ _ _ | exact Kd.V_nil _ _ _ _ _ | exact Kd.Q_nil _ _ _ _ _ | exact Kd.S_nil _ _ _ _ _, by first | exact Kd.R_nil _ _ _ _ _ | exact Kd.N_nil _ _ _ _ _ | exact Kd.V_nil _ _ _ _ _ | exact Kd.Q_nil _ _ _ _ _ | exact Kd.S_nil _ _ _ _ _, by first | exact Kd.S_nil _ _ _ _ _ | exact Kd.N_nil _ _ _ _ _ | exact Kd.V_nil _ _ _ _ _ | exact Kd.Q_nil _ _ _ _ _ | exact Kd.R_nil _ _ _ _ _, below_extB HB.out⟩
 ·
  rw [if_neg c3] at H
  exact absurd H (by simp)

end Go.Proofs.YtoolggpfgadjlaaDoor.Z
