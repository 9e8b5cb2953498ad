/- Printed: a Go function in plain Lean, and that its call does what it says. Conditions: those each theorem states. -/
import Derived.Test.YtoolggpfgadjlaaDoorZ0
import Derived.Test.YtoolggpfgadjlaaDoorZcustomsmadeCut
import Derived.Test.YtoolggpfgadjlaaDoorZcustomsmadeSourceNext
import Derived.Test.YtoolggpfgadjlaaDoorZcustomsmadeSourceWords
import Derived.Test.YtoolggpfgadjlaaDoorZcustomsmadeSourceshares
namespace Go.Proofs.YtoolggpfgadjlaaDoor.Z
open Go.RowKit Go.Proofs.YtoolggpfgadjlaaDoorW.PrintWords Go.Proofs.YtoolggpfgadjlaaDoorW.PrintLast Go.Proofs.YtoolggpfgadjlaaDoorW.PrintMore
attribute [local go_sem high] str_leq str_geq str_gtr   -- strings
attribute [local go_sem] max2_int min2_int max_two min_two max_three min_three max_four min_four   -- for this text's walks alone
set_option linter.unusedVariables false
set_option linter.unusedSimpArgs false

/-! ### customsmade_Good: function 9 -/
mutual
def customsmade_Good.j1 : Nat → List Int → Int → List ByteArray → List (S36) → Bool → Option (List ByteArray × (List (S36)) × (List (S38)) × Bool)
 | 0, _, _, _, _, _ => none
 | k + 1, x9007000, x9007001, x9014000, x9014001, x9014003 => (customsmade_Source_Next.f x9007000 x9007001 3).bind fun bt9035 => (if bt9035.1 = 1 then ((customsmade_Source_Next.f x9007000 bt9035.2 3).bind fun bt9037 => ((customsmade_Source_shares.f k x9007000 bt9037.2 (wrap64 (1 + bt9037.1))).bind fun bt9039 => (customsmade_Good.l1 k bt9039.1 0 x9007000 bt9039.2 x9014000 x9014001 ([] : List (S38)) x9014003))) else (some (x9014000, x9014001, ([] : List (S38)), x9014003)))
def customsmade_Good.l1 : Nat → List Int → Int → List Int → Int → List ByteArray → List (S36) → List (S38) → Bool → Option (List ByteArray × (List (S36)) × (List (S38)) × Bool)
 | 0, _, _, _, _, _, _, _, _ => none
 | k + 1, x9, x10, x9007000, x9007001, x9014000, x9014001, x9014002, x9014003 => if x10 < (x9.length : Int) then ((customsmade_Source_Words.f k x9007000 x9007001 3).bind fun bt9043 => (if 0 ≤ x10 then (if x9014002.length < 4398046511104 then (customsmade_Good.l1 k x9 (wrap64 (x10 + 1)) x9007000 bt9043.2 x9014000 x9014001 (x9014002 ++ [(⟨bt9043.1, rd x9 x10⟩ : S38)]) x9014003) else (none)) else (none))) else (some (x9014000, x9014001, x9014002, x9014003))
def customsmade_Good.l0 : Nat → List ByteArray → List Int → Int → List Int → Int → List ByteArray → List (S36) → Bool → Option (List ByteArray × (List (S36)) × (List (S38)) × Bool)
 | 0, _, _, _, _, _, _, _, _ => none
 | k + 1, x6, x7, x8, x9007000, x9007001, x9014000, x9014001, x9014003 => if x8 < (x7.length : Int) then (if 0 ≤ x8 then (if x8 < (x6.length : Int) then (if x9014001.length < 5864062014805 then (customsmade_Good.l0 k x6 x7 (wrap64 (x8 + 1)) x9007000 x9007001 x9014000 (x9014001 ++ [(⟨rdOf ByteArray.empty x6 x8, rd x7 x8⟩ : S36)]) x9014003) else (none)) else (none)) else (none)) else (customsmade_Good.j1 k x9007000 x9007001 x9014000 x9014001 x9014003)
end
def customsmade_Good.f (k : Nat) (l0 : List Int) : Option (List ByteArray × (List (S36)) × (List (S38)) × Bool) := (customsmade_Cut.f l0 60).bind fun t9002 => ((some (t9002, 0)).bind fun bt9004 => ((customsmade_Source_Words.f k bt9004.1 bt9004.2 4).bind fun bt9007 => ((customsmade_Source_Next.f bt9004.1 bt9007.2 4).bind fun bt9011 => ((customsmade_Source_Next.f bt9004.1 bt9011.2 4).bind fun bt9014 => (if bt9014.1 > 0 then ((some (([(⟨#[103, 108, 97, 115, 115]⟩ : ByteArray), (⟨#[108, 97, 109, 112]⟩ : ByteArray), (⟨#[115, 116, 101, 101, 108]⟩ : ByteArray), (⟨#[119, 111, 111, 100]⟩ : ByteArray)] : List ByteArray) : List ByteArray)).bind fun y9016 => ((customsmade_Source_Next.f bt9004.1 bt9014.2 2).bind fun bt9019 => (if 0 ≤ bt9019.1 then (if bt9019.1 ≤ (y9016.length : Int) then ((some (y9016.drop (bt9019.1 : Int).toNat : List ByteArray)).bind fun y9021 => ((customsmade_Source_shares.f k bt9004.1 bt9019.2 (mn bt9014.1 (y9021.length : Int))).bind fun bt9026 => (customsmade_Good.l0 k y9021 bt9026.1 0 bt9004.1 bt9026.2 bt9007.1 ([] : List (S36)) (bt9011.1 == 1)))) else (none)) else (none)))) else (customsmade_Good.j1 k bt9004.1 bt9014.2 bt9007.1 ([] : List (S36)) (bt9011.1 == 1)))))))
theorem customsmade_Good.mono_l : ∀ k, (∀ y0 y1 y2 y3 y4, LeO (customsmade_Good.j1 k y0 y1 y2 y3 y4) (customsmade_Good.j1 (k + 1) y0 y1 y2 y3 y4)) ∧ (∀ y0 y1 y2 y3 y4 y5 y6 y7, LeO (customsmade_Good.l1 k y0 y1 y2 y3 y4 y5 y6 y7) (customsmade_Good.l1 (k + 1) y0 y1 y2 y3 y4 y5 y6 y7)) ∧ (∀ y0 y1 y2 y3 y4 y5 y6 y7, LeO (customsmade_Good.l0 k y0 y1 y2 y3 y4 y5 y6 y7) (customsmade_Good.l0 (k + 1) y0 y1 y2 y3 y4 y5 y6 y7))
 | 0 => ⟨fun _ _ _ _ _ r h => by simp [customsmade_Good.j1] at h, fun _ _ _ _ _ _ _ _ r h => by simp [customsmade_Good.l1] at h, fun _ _ _ _ _ _ _ _ r h => by simp [customsmade_Good.l0] at h⟩
 | k + 1 => by
  obtain ⟨ih0, ih1, ih2⟩ := customsmade_Good.mono_l k
  refine ⟨?_, ?_, ?_⟩ <;> intros
  all_goals first | unfold customsmade_Good.j1 | unfold customsmade_Good.l1 | unfold customsmade_Good.l0
  all_goals repeat' first
   | (with_reducible exact ih0 _ _ _ _ _)
   | (with_reducible exact ih1 _ _ _ _ _ _ _ _)
   | (with_reducible exact ih2 _ _ _ _ _ _ _ _)
   | (with_reducible exact customsmade_Source_Words.mono _ _ _ _)
   | (with_reducible exact customsmade_Source_shares.mono _ _ _ _)
   | (with_reducible exact LeO.refl _)
   | (with_reducible exact LeO.none _)
   | (with_reducible refine LeO.ite ?_ ?_)
   | (with_reducible refine LeO.bind ?_ (fun _ => ?_))
   | exact ih0 _ _ _ _ _
   | exact ih1 _ _ _ _ _ _ _ _
   | exact ih2 _ _ _ _ _ _ _ _
   | exact customsmade_Source_Words.mono _ _ _ _
   | exact customsmade_Source_shares.mono _ _ _ _
   | exact LeO.none _
   | refine LeO.ite ?_ ?_
   | refine LeO.bind ?_ (fun _ => ?_)
theorem customsmade_Good.mono : ∀ a0 k, LeO (customsmade_Good.f k a0) (customsmade_Good.f (k + 1) a0) := by
 intro a0 k
 obtain ⟨ih0, ih1, ih2⟩ := customsmade_Good.mono_l k
 unfold customsmade_Good.f
 repeat' first
   | (with_reducible exact ih0 _ _ _ _ _)
   | (with_reducible exact ih1 _ _ _ _ _ _ _ _)
   | (with_reducible exact ih2 _ _ _ _ _ _ _ _)
   | (with_reducible exact customsmade_Source_Words.mono _ _ _ _)
   | (with_reducible exact customsmade_Source_shares.mono _ _ _ _)
   | (with_reducible exact LeO.refl _)
   | (with_reducible exact LeO.none _)
   | (with_reducible refine LeO.ite ?_ ?_)
   | (with_reducible refine LeO.bind ?_ (fun _ => ?_))
   | exact ih0 _ _ _ _ _
   | exact ih1 _ _ _ _ _ _ _ _
   | exact ih2 _ _ _ _ _ _ _ _
   | exact customsmade_Source_Words.mono _ _ _ _
   | exact customsmade_Source_shares.mono _ _ _ _
   | exact LeO.none _
   | refine LeO.ite ?_ ?_
   | refine LeO.bind ?_ (fun _ => ?_)
def customsmade_Good.T10 : Bool × List (List Nat × List Nat) := (true, [([], []), ([0], [0]), ([], []), ([], []), ([2, 3], [2, 3]), ([4], [4]), ([], []), ([], []), ([6, 7], [6, 7]), ([8], [8]), ([5, 9], [5, 9]), ([10], [10]), ([1, 11], [1, 11]), ([0, 1, 2, 3, 4, 5, 6, 7, 8, 9, 10, 11, 12], []), ([13, 12, 12, 0, 1, 2, 3, 4, 5, 6, 7, 8, 9, 10, 11, 12], [12, 13])])
def customsmade_Good.B10 : List Nat := [0, 1, 0, 0, 12, 28, 0, 0, 192, 448, 1020, 2044, 4095, 8191, 16383]
theorem customsmade_Good.tab10 : rtab .any (opsOf Tryd.f9 10) = customsmade_Good.T10 := by kernel_rfl
theorem customsmade_Good.bits10 : waitsOk customsmade_Good.T10.2 customsmade_Good.B10 = true := by kernel_rfl
def customsmade_Good.T16 : Bool × List (List Nat × List Nat) := (true, [([], []), ([0], [0]), ([], []), ([2], [2]), ([], []), ([], []), ([4, 5], [4, 5]), ([6], [6]), ([3, 7], [3, 7]), ([8], [8]), ([1, 9, 3], [1, 9]), ([0, 1, 2, 3, 4, 5, 6, 7, 8, 9, 10], []), ([11, 10, 10, 0, 1, 2, 3, 4, 5, 6, 7, 8, 9, 10], [10, 11])])
def customsmade_Good.B16 : List Nat := [0, 1, 0, 4, 0, 0, 48, 112, 252, 508, 1023, 2047, 4095]
theorem customsmade_Good.tab16 : rtab .any (opsOf Tryd.f9 16) = customsmade_Good.T16 := by kernel_rfl
theorem customsmade_Good.bits16 : waitsOk customsmade_Good.T16.2 customsmade_Good.B16 = true := by kernel_rfl
set_option maxHeartbeats 8000000 in
set_option maxRecDepth 100000 in
theorem customsmade_Good.calls (k : Nat) (A0 : Option Addr) (c0 : Nat) (l0 : List Int) (r1 : List ByteArray) (r2 : List (S36)) (r3 : List (S38)) (r4 : Bool) (w : World) (hr0 : Kd.C (Kd.int .i64) w A0 l0.length l0) (hc0 : l0.length ≤ c0) (h : customsmade_Good.f k l0 = some (r1, r2, r3, r4)) :
  Calls Tryd.prog 9 #[.slice A0 l0.length c0] w fun e w' => ∃ v0_ v1_ v2_ : Value, e = .returned (.agg #[v0_, v1_, v2_, .bool r4]) ∧ Kd.R Kd.string 9 w' w.heap.size (fun k_ => (w.heap.size ≤ k_)) v0_ r1 ∧ Kd.R k36 36 w' w.heap.size (fun k_ => (w.heap.size ≤ k_)) v1_ r2 ∧ Kd.N k38 38 w' w.heap.size (fun k_ => (w.heap.size ≤ k_) ∧ some k_ ≠ (v0_ : Value).ownBlock ∧ some k_ ≠ (v1_ : Value).ownBlock) v2_ r3 ∧ Below w.heap.size w w' := by
 have hu26 := Tryd.underlying26
 have hu55 := Tryd.underlying55
 have hu36 := Tryd.underlying36
 have hu38 := Tryd.underlying38
 have HR0 := Aside0.mk hr0
 have HC0 := Aside0.mk hc0
 clear hr0 hc0
 have HB := Aside0.mk (Below.refl w.heap.size w)
 have H : ((customsmade_Cut.f l0 60).bind fun t9002 => ((some (t9002, 0)).bind fun bt9004 => ((customsmade_Source_Words.f k bt9004.1 bt9004.2 4).bind fun bt9007 => ((customsmade_Source_Next.f bt9004.1 bt9007.2 4).bind fun bt9011 => ((customsmade_Source_Next.f bt9004.1 bt9011.2 4).bind fun bt9014 => (if bt9014.1 > 0 then ((some (([(⟨#[103, 108, 97, 115, 115]⟩ : ByteArray), (⟨#[108, 97, 109, 112]⟩ : ByteArray), (⟨#[115, 116, 101, 101, 108]⟩ : ByteArray), (⟨#[119, 111, 111, 100]⟩ : ByteArray)] : List ByteArray) : List ByteArray)).bind fun y9016 => ((customsmade_Source_Next.f bt9004.1 bt9014.2 2).bind fun bt9019 => (if 0 ≤ bt9019.1 then (if bt9019.1 ≤ (y9016.length : Int) then ((some (y9016.drop (bt9019.1 : Int).toNat : List ByteArray)).bind fun y9021 => ((customsmade_Source_shares.f k bt9004.1 bt9019.2 (mn bt9014.1 (y9021.length : Int))).bind fun bt9026 => (customsmade_Good.l0 k y9021 bt9026.1 0 bt9004.1 bt9026.2 bt9007.1 ([] : List (S36)) (bt9011.1 == 1)))) else (none)) else (none)))) else (customsmade_Good.j1 k bt9004.1 bt9014.2 bt9007.1 ([] : List (S36)) (bt9011.1 == 1)))))))) = some (r1, r2, r3, r4) := h
 clear h
 replace H := Option.bind_eq_some_iff.mp H
 obtain ⟨t9002, A20, H⟩ := H
 replace H : ((some (t9002, 0)).bind fun bt9004 => ((customsmade_Source_Words.f k bt9004.1 bt9004.2 4).bind fun bt9007 => ((customsmade_Source_Next.f bt9004.1 bt9007.2 4).bind fun bt9011 => ((customsmade_Source_Next.f bt9004.1 bt9011.2 4).bind fun bt9014 => (if bt9014.1 > 0 then ((some (([(⟨#[103, 108, 97, 115, 115]⟩ : ByteArray), (⟨#[108, 97, 109, 112]⟩ : ByteArray), (⟨#[115, 116, 101, 101, 108]⟩ : ByteArray), (⟨#[119, 111, 111, 100]⟩ : ByteArray)] : List ByteArray) : List ByteArray)).bind fun y9016 => ((customsmade_Source_Next.f bt9004.1 bt9014.2 2).bind fun bt9019 => (if 0 ≤ bt9019.1 then (if bt9019.1 ≤ (y9016.length : Int) then ((some (y9016.drop (bt9019.1 : Int).toNat : List ByteArray)).bind fun y9021 => ((customsmade_Source_shares.f k bt9004.1 bt9019.2 (mn bt9014.1 (y9021.length : Int))).bind fun bt9026 => (customsmade_Good.l0 k y9021 bt9026.1 0 bt9004.1 bt9026.2 bt9007.1 ([] : List (S36)) (bt9011.1 == 1)))) else (none)) else (none)))) else (customsmade_Good.j1 k bt9004.1 bt9014.2 bt9007.1 ([] : List (S36)) (bt9011.1 == 1))))))) = some (r1, r2, r3, r4) := H
 have A2 := Aside0.mk A20
 clear A20
 replace H := Option.bind_eq_some_iff.mp H
 obtain ⟨⟨t9004, t9005⟩, A30, H⟩ := H
 replace H : ((customsmade_Source_Words.f k t9004 t9005 4).bind fun bt9007 => ((customsmade_Source_Next.f t9004 bt9007.2 4).bind fun bt9011 => ((customsmade_Source_Next.f t9004 bt9011.2 4).bind fun bt9014 => (if bt9014.1 > 0 then ((some (([(⟨#[103, 108, 97, 115, 115]⟩ : ByteArray), (⟨#[108, 97, 109, 112]⟩ : ByteArray), (⟨#[115, 116, 101, 101, 108]⟩ : ByteArray), (⟨#[119, 111, 111, 100]⟩ : ByteArray)] : List ByteArray) : List ByteArray)).bind fun y9016 => ((customsmade_Source_Next.f t9004 bt9014.2 2).bind fun bt9019 => (if 0 ≤ bt9019.1 then (if bt9019.1 ≤ (y9016.length : Int) then ((some (y9016.drop (bt9019.1 : Int).toNat : List ByteArray)).bind fun y9021 => ((customsmade_Source_shares.f k t9004 bt9019.2 (mn bt9014.1 (y9021.length : Int))).bind fun bt9026 => (customsmade_Good.l0 k y9021 bt9026.1 0 t9004 bt9026.2 bt9007.1 ([] : List (S36)) (bt9011.1 == 1)))) else (none)) else (none)))) else (customsmade_Good.j1 k t9004 bt9014.2 bt9007.1 ([] : List (S36)) (bt9011.1 == 1)))))) = some (r1, r2, r3, r4) := H
 have A3 := Aside0.mk A30
 clear A30
 replace H := Option.bind_eq_some_iff.mp H
 obtain ⟨⟨t9007, t9010⟩, A40, H⟩ := H
 replace H : ((customsmade_Source_Next.f t9004 t9010 4).bind fun bt9011 => ((customsmade_Source_Next.f t9004 bt9011.2 4).bind fun bt9014 => (if bt9014.1 > 0 then ((some (([(⟨#[103, 108, 97, 115, 115]⟩ : ByteArray), (⟨#[108, 97, 109, 112]⟩ : ByteArray), (⟨#[115, 116, 101, 101, 108]⟩ : ByteArray), (⟨#[119, 111, 111, 100]⟩ : ByteArray)] : List ByteArray) : List ByteArray)).bind fun y9016 => ((customsmade_Source_Next.f t9004 bt9014.2 2).bind fun bt9019 => (if 0 ≤ bt9019.1 then (if bt9019.1 ≤ (y9016.length : Int) then ((some (y9016.drop (bt9019.1 : Int).toNat : List ByteArray)).bind fun y9021 => ((customsmade_Source_shares.f k t9004 bt9019.2 (mn bt9014.1 (y9021.length : Int))).bind fun bt9026 => (customsmade_Good.l0 k y9021 bt9026.1 0 t9004 bt9026.2 t9007 ([] : List (S36)) (bt9011.1 == 1)))) else (none)) else (none)))) else (customsmade_Good.j1 k t9004 bt9014.2 t9007 ([] : List (S36)) (bt9011.1 == 1))))) = some (r1, r2, r3, r4) := H
 have A4 := Aside0.mk A40
 clear A40
 replace H := Option.bind_eq_some_iff.mp H
 obtain ⟨⟨t9011, t9012⟩, A50, H⟩ := H
 replace H : ((customsmade_Source_Next.f t9004 t9012 4).bind fun bt9014 => (if bt9014.1 > 0 then ((some (([(⟨#[103, 108, 97, 115, 115]⟩ : ByteArray), (⟨#[108, 97, 109, 112]⟩ : ByteArray), (⟨#[115, 116, 101, 101, 108]⟩ : ByteArray), (⟨#[119, 111, 111, 100]⟩ : ByteArray)] : List ByteArray) : List ByteArray)).bind fun y9016 => ((customsmade_Source_Next.f t9004 bt9014.2 2).bind fun bt9019 => (if 0 ≤ bt9019.1 then (if bt9019.1 ≤ (y9016.length : Int) then ((some (y9016.drop (bt9019.1 : Int).toNat : List ByteArray)).bind fun y9021 => ((customsmade_Source_shares.f k t9004 bt9019.2 (mn bt9014.1 (y9021.length : Int))).bind fun bt9026 => (customsmade_Good.l0 k y9021 bt9026.1 0 t9004 bt9026.2 t9007 ([] : List (S36)) (t9011 == 1)))) else (none)) else (none)))) else (customsmade_Good.j1 k t9004 bt9014.2 t9007 ([] : List (S36)) (t9011 == 1)))) = some (r1, r2, r3, r4) := H
 have A5 := Aside0.mk A50
 clear A50
 replace H := Option.bind_eq_some_iff.mp H
 obtain ⟨⟨t9014, t9015⟩, A60, H⟩ := H
 replace H : (if t9014 > 0 then ((some (([(⟨#[103, 108, 97, 115, 115]⟩ : ByteArray), (⟨#[108, 97, 109, 112]⟩ : ByteArray), (⟨#[115, 116, 101, 101, 108]⟩ : ByteArray), (⟨#[119, 111, 111, 100]⟩ : ByteArray)] : List ByteArray) : List ByteArray)).bind fun y9016 => ((customsmade_Source_Next.f t9004 t9015 2).bind fun bt9019 => (if 0 ≤ bt9019.1 then (if bt9019.1 ≤ (y9016.length : Int) then ((some (y9016.drop (bt9019.1 : Int).toNat : List ByteArray)).bind fun y9021 => ((customsmade_Source_shares.f k t9004 bt9019.2 (mn t9014 (y9021.length : Int))).bind fun bt9026 => (customsmade_Good.l0 k y9021 bt9026.1 0 t9004 bt9026.2 t9007 ([] : List (S36)) (t9011 == 1)))) else (none)) else (none)))) else (customsmade_Good.j1 k t9004 t9015 t9007 ([] : List (S36)) (t9011 == 1))) = some (r1, r2, r3, r4) := H
 have A6 := Aside0.mk A60
 clear A60
 have HC7 := Aside0.mk H
 clear H
 go_enter Tryd.func9, Tryd.ntmps9
 go_upto_if 24 with (first | ((with_reducible refine gate_dst (N := 2) rfl ?_); refine box_event ?hg (N := 2) ?hd (cs := #[.slice none 0 0, .slice none 0 0, .slice none 0 0, .bool false]) (t := 26) ?hr ?_; (case hd => rfl); (case hg => rfl); (case hr => exact goR); intro gb9001 hg w8 hbox hb; have BK9001 := Aside0.mk (hbox); have GW9001 := gwE hg HB; have GE9001 := GW9001; have GI9001 := GE_.mk GE9001.out; replace HB := mvH HB hb; clear hb hbox hg) | ((with_reducible refine gate_callee (f := 23) rfl ?_); refine goesL_ (some 12) rfl rfl Tryd.func23 (by kernel_rfl) rfl #[.slice A0 l0.length c0, .int .i64 60] rfl goA ?_; (with_reducible refine (customsmade_Cut.calls _ _ l0 60 t9002 _ ?side1 ?side2 A2.out).mono ?_); (case side1 => repeat (first | exact (Kd.C_below HR0.out HB.out) | (with_reducible refine Kd.C_alloc ?_ _) | (with_reducible refine Kd.C_drewN ?_ _) | (with_reducible refine Kd.C_drew ?_))); (case side2 => exact HC0.out); rintro e w9 ⟨A9003, c9003, rfl, hcr_, hrr_, hb⟩; refine ⟨_, rfl, ?_⟩; have HR9003 := Aside0.mk (hrr_ _ HR0.out); have HC9003 := Aside0.mk hcr_; clear hrr_ hcr_; replace BK9001 := mvB BK9001 hb; replace HB := mvH HB hb; (try clear hb); (try clear hb2); (try clear hk); (try clear hi)) | ((with_reducible refine gate_dst (N := 14) rfl ?_); refine box_event ?hg (N := 14) ?hd (cs := #[.slice A9003 t9002.length c9003, .int .i64 0]) (t := 55) ?hr ?_; (case hd => rfl); (case hg => rfl); (case hr => exact goR); intro g9006 hg_ w10 hbx_ hb2; have hi : IsS55 w w10 g9006 t9004 t9005 := (by have hx_ := A3.out; simp only [Option.some.injEq, Prod.mk.injEq] at hx_; obtain ⟨rfl, rfl⟩ := hx_; exact ⟨_, _, hbx_, by rw [hg_]; exact (below_extB HB.out).size, HR9003.out⟩); have hb := below_step (below_extB HB.out) hb2; clear hg_ hbx_; have n0_ := Aside0.mk (blk_below (blk_ext BK9001.out) hb2); replace HB := Aside0.mk (hb); have HI9006 := Aside0.mk (hi); have NB9006_9001 := Aside0.mk (IsS55.ne_blk hi (blk_below (blk_ext BK9001.out) hb2) (by decide)); have NB9001_9006 := Aside0.mk (Ne.symm (IsS55.ne_blk hi (blk_below (blk_ext BK9001.out) hb2) (by decide))); clear BK9001; have BK9001 := n0_; have NI9006_9001 := NE_.mk NB9006_9001.out; have NI9001_9006 := NE_.mk NB9001_9006.out; clear n0_; (try clear hb); (try clear hb2); (try clear hk); (try clear hi)) | ((with_reducible refine gate_callee (f := 24) rfl ?_); refine goesL_ (some 16) rfl rfl Tryd.func24 (by kernel_rfl) rfl #[.pointer (some ⟨g9006, 0, none⟩), .int .i64 4] rfl goA ?_; (with_reducible refine (customsmade_Source_Words.calls k g9006 t9004 t9005 4 t9007 t9010 w _ ?side1 ?side2 A4.out).mono ?_); (case side1 => repeat (first | (with_reducible first | exact HI9006.out | apply IsS55.alloc | apply IsS55.drewN | apply IsS55.drew | apply IsS55.set_1 | refine IsS55.far ?_ NB9006_9001.out _) | exact HI9006.out)); (case side2 => repeat (first | (with_reducible first | exact HB.out | apply bA | apply bN | apply b1 | refine bS ?_ (IsS55.ge HI9006.out) | refine bS ?_ GE9001.out) | exact HB.out)); rintro e w11 ⟨v9008, rfl, ho0, hi, hb, hk⟩; refine ⟨_, rfl, ?_⟩; replace BK9001 := Aside0.mk (KeepBut.blk hk (g' := gb9001) (o := .cells #[.slice none 0 0, .slice none 0 0, .slice none 0 0, .bool false] 26 (0, 0)) (blk_ext BK9001.out) NB9001_9006.out (by simp)); have HO9009 := Aside0.mk (Kd.R_lower (Kd.R_newM (M := fun k_ => (w.heap.size ≤ k_)) ho0 (below_size (by repeat (first | (with_reducible first | exact HB.out | apply bA | apply bN | apply b1 | refine bS ?_ (IsS55.ge HI9006.out) | refine bS ?_ GE9001.out) | exact HB.out))) (fun k_ h_ => h_)) (below_size (by repeat (first | (with_reducible first | exact HB.out | apply bA | apply bN | apply b1 | refine bS ?_ (IsS55.ge HI9006.out) | refine bS ?_ GE9001.out) | exact HB.out)))); replace HB := Aside0.mk (hb); replace HI9006 := Aside0.mk (hi); (try clear hb); (try clear hb2); (try clear hk); (try clear hi); (try clear ho0)) | ((with_reducible refine gate_callee (f := 25) rfl ?_); refine goesL_ (some 18) rfl rfl Tryd.func25 (by kernel_rfl) rfl #[.pointer (some ⟨g9006, 0, none⟩), .int .i64 4] rfl goA ?_; (with_reducible refine (customsmade_Source_Next.calls g9006 t9004 t9010 4 t9011 t9012 w _ ?side1 ?side2 A5.out).mono ?_); (case side1 => repeat (first | (with_reducible first | exact HI9006.out | apply IsS55.alloc | apply IsS55.drewN | apply IsS55.drew | apply IsS55.set_1 | refine IsS55.far ?_ NB9006_9001.out _) | exact HI9006.out)); (case side2 => repeat (first | (with_reducible first | exact HB.out | apply bA | apply bN | apply b1 | refine bS ?_ (IsS55.ge HI9006.out) | refine bS ?_ GE9001.out) | exact HB.out)); rintro e w12 ⟨rfl, hi, hb, hk⟩; refine ⟨_, rfl, ?_⟩; replace BK9001 := Aside0.mk (KeepBut.blk hk (g' := gb9001) (o := .cells #[.slice none 0 0, .slice none 0 0, .slice none 0 0, .bool false] 26 (0, 0)) (blk_ext BK9001.out) NB9001_9006.out (by simp)); replace HO9009 := Aside0.mk (Kd.R_mono (Kd.R_keep (IsS55.apart (show IsS55 w _ g9006 t9004 t9010 from by repeat (first | (with_reducible first | exact HI9006.out | apply IsS55.alloc | apply IsS55.drewN | apply IsS55.drew | apply IsS55.set_1 | refine IsS55.far ?_ NB9006_9001.out _) | exact HI9006.out)) (Kd.R_ext HO9009.out) (by decide)) hk (fun _ h => h.2)) (fun _ h => h.1)); replace HB := Aside0.mk (hb); replace HI9006 := Aside0.mk (hi); (try clear hb); (try clear hb2); (try clear hk); (try clear hi); obtain ⟨Ao13, co13, eo13⟩ := Kd.R_slice HO9009.out; subst eo13) | ((with_reducible refine gate_dst (N := 4) rfl ?_); refine box_event ?hg (N := 4) ?hd (cs := #[.slice none 0 0, .slice none 0 0, .slice none 0 0, .bool false]) (t := 26) ?hr ?_; (case hd => rfl); (case hg => rfl); (case hr => exact goR); intro gb9013 hg w14 hbox hb; have n2_ := Aside0.mk (IsS55.below (by repeat (first | (with_reducible first | exact HI9006.out | apply IsS55.alloc | apply IsS55.drewN | apply IsS55.drew | apply IsS55.set_1 | refine IsS55.far ?_ NB9006_9001.out _) | exact HI9006.out)) hb); have n3_ := Aside0.mk (below_step (by repeat (first | (with_reducible first | exact HB.out | apply bA | apply bN | apply b1 | refine bS ?_ (IsS55.ge HI9006.out) | refine bS ?_ GE9001.out) | exact HB.out)) hb); have BK9013 := Aside0.mk (hbox); have GW9013 := Aside0.mk ((by rw [hg]; exact (below_size (by repeat (first | (with_reducible first | exact HB.out | apply bA | apply bN | apply b1 | refine bS ?_ (IsS55.ge HI9006.out) | refine bS ?_ GE9001.out) | exact HB.out))) : w.heap.size ≤ gb9013)); have GE9013 := Aside0.mk ((by rw [hg]; exact (below_size (by repeat (first | (with_reducible first | exact HB.out | apply bA | apply bN | apply b1 | refine bS ?_ (IsS55.ge HI9006.out) | refine bS ?_ GE9001.out) | exact HB.out))) : w.heap.size ≤ gb9013)); have NB9001_9013 := nbL hg BK9001; have NB9013_9001 := nbR hg BK9001; have NB9006_9013 := Aside0.mk ((by rw [hg]; exact Nat.ne_of_lt (IsS55.lt (show IsS55 w _ g9006 t9004 t9012 from by repeat (first | (with_reducible first | exact HI9006.out | apply IsS55.alloc | apply IsS55.drewN | apply IsS55.drew | apply IsS55.set_1 | refine IsS55.far ?_ NB9006_9001.out _) | exact HI9006.out))) : g9006 ≠ gb9013)); have NB9013_9006 := Aside0.mk ((by rw [hg]; exact Nat.ne_of_gt (IsS55.lt (show IsS55 w _ g9006 t9004 t9012 from by repeat (first | (with_reducible first | exact HI9006.out | apply IsS55.alloc | apply IsS55.drewN | apply IsS55.drew | apply IsS55.set_1 | refine IsS55.far ?_ NB9006_9001.out _) | exact HI9006.out))) : gb9013 ≠ g9006)); clear HI9006; clear HB; have HI9006 := n2_; have HB := n3_; have GI9013 := GE_.mk GE9013.out; have NI9001_9013 := NE_.mk NB9001_9013.out; have NI9013_9001 := NE_.mk NB9013_9001.out; have NI9006_9013 := NE_.mk NB9006_9013.out; have NI9013_9006 := NE_.mk NB9013_9006.out; replace HO9009 := mvR HO9009 hb; replace BK9001 := mvB BK9001 hb; clear n2_ n3_; clear hb hbox hg; have hnb15 := NB9013_9001.out; have hnc15 := NB9001_9013.out; have hnb16 := NB9013_9006.out; have hnc16 := NB9006_9013.out; obtain ⟨hcz17_0, hcz17_1, hcz17_2, hcz17_3, hfz17_0, hfz17_1, hfz17_2, hfz17_3⟩ := bk4 BK9013.out) | ((with_reducible refine gate_callee (f := 25) rfl ?_); refine goesL_ (some 22) rfl rfl Tryd.func25 (by kernel_rfl) rfl #[.pointer (some ⟨g9006, 0, none⟩), .int .i64 4] rfl goA ?_; (with_reducible refine (customsmade_Source_Next.calls g9006 t9004 t9012 4 t9014 t9015 w _ ?side1 ?side2 A6.out).mono ?_); (case side1 => repeat (first | (with_reducible first | exact HI9006.out | apply IsS55.alloc | apply IsS55.drewN | apply IsS55.drew | apply IsS55.set_1 | refine IsS55.far ?_ NB9006_9001.out _ | refine IsS55.far ?_ NB9006_9013.out _) | exact HI9006.out)); (case side2 => repeat (first | (with_reducible first | exact HB.out | apply bA | apply bN | apply b1 | refine bS ?_ (IsS55.ge HI9006.out) | refine bS ?_ GE9001.out | refine bS ?_ GE9013.out) | exact HB.out)); rintro e w18 ⟨rfl, hi, hb, hk⟩; refine ⟨_, rfl, ?_⟩; replace BK9001 := Aside0.mk (KeepBut.blk hk (g' := gb9001) (o := .cells #[.slice none 0 0, .slice none 0 0, .slice none 0 0, .bool false] 26 (0, 0)) (blk_extC BK9001.out) NB9001_9006.out (by simp)); replace HO9009 := Aside0.mk (Kd.R_mono (Kd.R_keep (IsS55.apart (show IsS55 w _ g9006 t9004 t9012 from by repeat (first | (with_reducible first | exact HI9006.out | apply IsS55.alloc | apply IsS55.drewN | apply IsS55.drew | apply IsS55.set_1 | refine IsS55.far ?_ NB9006_9001.out _ | refine IsS55.far ?_ NB9006_9013.out _) | exact HI9006.out)) (Kd.R_ext ((Kd.R_mono (Kd.R_far (p := ⟨gb9013, 3, none⟩) (Kd.R_far (p := ⟨gb9013, 2, none⟩) (Kd.R_far (p := ⟨gb9013, 1, none⟩) (Kd.R_far (p := ⟨gb9013, 0, none⟩) (Kd.R_types HO9009.out BK9013.out (by decide)) (fun _ hk => hk.2) (.slice Ao13 t9007.length co13)) (fun _ hk => hk.2) (.slice none 0 0)) (fun _ hk => hk.2) (.slice none 0 0)) (fun _ hk => hk.2) (.bool (t9011 == 1))) (fun _ h_ => h_.1)))) (by decide)) hk (fun _ h => h.2)) (fun _ h => h.1)); replace BK9013 := Aside0.mk (KeepBut.blk hk (g' := gb9013) (o := .cells #[.slice Ao13 t9007.length co13, .slice none 0 0, .slice none 0 0, .bool (t9011 == 1)] 26 (0, 0)) (by (with_reducible repeat (first | refine blk_drewN ?_ _ | refine blk_drew ?_ | refine blk_alloc ?_ _)); refine blk_put (cs := #[.slice Ao13 t9007.length co13, .slice none 0 0, .slice none 0 0, .bool false]) ?_ 3 _ rfl; (with_reducible repeat (first | refine blk_drewN ?_ _ | refine blk_drew ?_ | refine blk_alloc ?_ _)); refine blk_put (cs := #[.slice Ao13 t9007.length co13, .slice none 0 0, .slice none 0 0, .bool false]) ?_ 2 _ rfl; (with_reducible repeat (first | refine blk_drewN ?_ _ | refine blk_drew ?_ | refine blk_alloc ?_ _)); refine blk_put (cs := #[.slice Ao13 t9007.length co13, .slice none 0 0, .slice none 0 0, .bool false]) ?_ 1 _ rfl; (with_reducible repeat (first | refine blk_drewN ?_ _ | refine blk_drew ?_ | refine blk_alloc ?_ _)); refine blk_put (cs := #[.slice none 0 0, .slice none 0 0, .slice none 0 0, .bool false]) ?_ 0 _ rfl; exact blk_ext BK9013.out) NB9013_9006.out (by simp)); replace HB := Aside0.mk (hb); replace HI9006 := Aside0.mk (hi); (try clear hb); (try clear hb2); (try clear hk); (try clear hi)))
 (try simp only [Act.put, List.setIfInBounds_toArray, List.set_cons_zero, List.set_cons_succ])
 go_cut [] (fun wc => ∃ (kq : Nat) (x9007001_6 : Int) (x9014001_6 : List (S36)) (u9014001 : Value), Aside0 (customsmade_Good.j1 kq t9004 x9007001_6 t9007 x9014001_6 (t9011 == 1) = some (r1, r2, r3, r4)) ∧ Aside0 (kq ≤ k) ∧ Aside0 (Kd.R Kd.string 9 wc w.heap.size (fun k_ => (w.heap.size ≤ k_)) (.slice Ao13 t9007.length co13) t9007) ∧ Aside0 (Kd.R k36 36 wc w.heap.size (fun k_ => (w.heap.size ≤ k_)) u9014001 x9014001_6) ∧ Aside0 (wc.heap[gb9001]? = some (.cells #[(.slice none 0 0), (.slice none 0 0), (.slice none 0 0), .bool false] 26 (0, 0))) ∧ Aside0 (wc.heap[gb9013]? = some (.cells #[(.slice Ao13 t9007.length co13), u9014001, (.slice none 0 0), .bool (t9011 == 1)] 26 (0, 0))) ∧ Aside0 (IsS55 w wc g9006 t9004 x9007001_6) ∧ Aside0 (Below w.heap.size w wc))
 case first =>
  have H := HC7.out
  clear HC7
  by_cases c19 : t9014 > 0
  ·
   rw [if_pos c19] at H
   have c19b0 : decide (0 < t9014) = true := decide_eq_true c19
   clear c19
   (first | rw [c19b0] | (simp only [i64_w, i32_w]; rw [c19b0]) | rw [c19b1] | skip)
   obtain ⟨y9016, hy9016⟩ : ∃ y_ : List ByteArray, y_ = (([(⟨#[103, 108, 97, 115, 115]⟩ : ByteArray), (⟨#[108, 97, 109, 112]⟩ : ByteArray), (⟨#[115, 116, 101, 101, 108]⟩ : ByteArray), (⟨#[119, 111, 111, 100]⟩ : ByteArray)] : List ByteArray)) := ⟨_, rfl⟩
   replace H : ((customsmade_Source_Next.f t9004 t9015 2).bind fun bt9019 => (if 0 ≤ bt9019.1 then (if bt9019.1 ≤ (y9016.length : Int) then ((some (y9016.drop (bt9019.1 : Int).toNat : List ByteArray)).bind fun y9021 => ((customsmade_Source_shares.f k t9004 bt9019.2 (mn t9014 (y9021.length : Int))).bind fun bt9026 => (customsmade_Good.l0 k y9021 bt9026.1 0 t9004 bt9026.2 t9007 ([] : List (S36)) (t9011 == 1)))) else (none)) else (none))) = some (r1, r2, r3, r4) := by first | (rw [hy9016]; with_reducible exact H) | (have H2_ := (Option.bind_some _ _).symm.trans H; rw [hy9016]; with_reducible exact H2_) | (have H2_ := (Option.bind_some _ _).symm.trans H; with_reducible exact H2_) | with_reducible exact H | (rw [hy9016]; exact H) | exact H
   have Ny9016 := Aside0.mk hy9016
   clear hy9016
   replace H := Option.bind_eq_some_iff.mp H
   obtain ⟨⟨t9019, t9020⟩, A200, H⟩ := H
   replace H : (if 0 ≤ t9019 then (if t9019 ≤ (y9016.length : Int) then ((some (y9016.drop (t9019 : Int).toNat : List ByteArray)).bind fun y9021 => ((customsmade_Source_shares.f k t9004 t9020 (mn t9014 (y9021.length : Int))).bind fun bt9026 => (customsmade_Good.l0 k y9021 bt9026.1 0 t9004 bt9026.2 t9007 ([] : List (S36)) (t9011 == 1)))) else (none)) else (none)) = some (r1, r2, r3, r4) := H
   have A20 := Aside0.mk A200
   clear A200
   replace H := if_some H; obtain ⟨c21, H⟩ := H
   have c21b0 := eq_true c21
   have c21b1 : decide (0 ≤ t9019) = true := decide_eq_true c21
   clear c21
   replace H := if_some H; obtain ⟨c22, H⟩ := H
   have c22b0 := eq_true c22
   have c22b1 : decide (t9019 ≤ (y9016.length : Int)) = true := decide_eq_true c22
   clear c22
   obtain ⟨y9021, hy9021⟩ : ∃ y_ : List ByteArray, y_ = (y9016.drop (t9019 : Int).toNat) := ⟨_, rfl⟩
   replace H : ((customsmade_Source_shares.f k t9004 t9020 (mn t9014 (y9021.length : Int))).bind fun bt9026 => (customsmade_Good.l0 k y9021 bt9026.1 0 t9004 bt9026.2 t9007 ([] : List (S36)) (t9011 == 1))) = some (r1, r2, r3, r4) := by first | (rw [hy9021]; with_reducible exact H) | (have H2_ := (Option.bind_some _ _).symm.trans H; rw [hy9021]; with_reducible exact H2_) | (have H2_ := (Option.bind_some _ _).symm.trans H; with_reducible exact H2_) | with_reducible exact H | (rw [hy9021]; exact H) | exact H
   have Ny9021 := Aside0.mk hy9021
   clear hy9021
   obtain ⟨ji23, hji23⟩ : ∃ j_ : Int, (mn t9014 (y9021.length : Int)) = j_ := ⟨_, rfl⟩
   replace H : ((customsmade_Source_shares.f k t9004 t9020 (ji23)).bind fun bt9026 => (customsmade_Good.l0 k y9021 bt9026.1 0 t9004 bt9026.2 t9007 ([] : List (S36)) (t9011 == 1))) = some (r1, r2, r3, r4) := by first | (rw [hji23] at H; exact H) | (simp only [hji23] at H ⊢; exact H)
   (try rw [hji23] at A20)
   have hji23_ : (if (y9021.length : Int) < t9014 then (y9021.length : Int) else t9014) = ji23 := hji23
   replace H := Option.bind_eq_some_iff.mp H
   obtain ⟨⟨t9026, t9029⟩, A240, H⟩ := H
   replace H : (customsmade_Good.l0 k y9021 t9026 0 t9004 t9029 t9007 ([] : List (S36)) (t9011 == 1)) = some (r1, r2, r3, r4) := H
   have A24 := Aside0.mk A240
   clear A240
   have H' := Aside0.mk H
   clear H
   go_wp2_with (first | ((with_reducible refine gate_dst (N := 25) rfl ?_); refine Kd.R_lit Kd.string _ 9 ?hg (N := 25) ?hd (xs := ([(⟨#[103, 108, 97, 115, 115]⟩ : ByteArray), (⟨#[108, 97, 109, 112]⟩ : ByteArray), (⟨#[115, 116, 101, 101, 108]⟩ : ByteArray), (⟨#[119, 111, 111, 100]⟩ : ByteArray)] : List ByteArray)) (inner := [.string (⟨#[103, 108, 97, 115, 115]⟩ : ByteArray), .string (⟨#[108, 97, 109, 112]⟩ : ByteArray), .string (⟨#[115, 116, 101, 101, 108]⟩ : ByteArray), .string (⟨#[119, 111, 111, 100]⟩ : ByteArray)]) (ok := fun _ => True) (okp := fun _ => True) ?hr ?hp (fun _ hk => hk) trivial (Below.refl _ _) (Nat.le_refl _) (by simp) ?_; (case hd => rfl); (case hg => rfl); (case hr => exact goR); (case hp => exact (Reps.one (show Kd.M Kd.string _ _ _ (⟨#[103, 108, 97, 115, 115]⟩ : ByteArray) [.string (⟨#[103, 108, 97, 115, 115]⟩ : ByteArray)] from rfl) (Reps.one (show Kd.M Kd.string _ _ _ (⟨#[108, 97, 109, 112]⟩ : ByteArray) [.string (⟨#[108, 97, 109, 112]⟩ : ByteArray)] from rfl) (Reps.one (show Kd.M Kd.string _ _ _ (⟨#[115, 116, 101, 101, 108]⟩ : ByteArray) [.string (⟨#[115, 116, 101, 101, 108]⟩ : ByteArray)] from rfl) (Reps.one (show Kd.M Kd.string _ _ _ (⟨#[119, 111, 111, 100]⟩ : ByteArray) [.string (⟨#[119, 111, 111, 100]⟩ : ByteArray)] from rfl) (Reps.none _ _)))))); intro v9017 w25 ho26 hb hg_ hnew_; clear hg_ hnew_; (first | rw [← Ny9016.out] at ho26 | (simp only [Int.reduceToNat] at ho26; rw [← Ny9016.out] at ho26)); have HO9018 := Aside0.mk (Kd.R_lower (Kd.R_new' (Kd.R_newM (M := fun k_ => (w.heap.size ≤ k_)) ho26 (below_size (by repeat (first | (with_reducible first | exact HB.out | apply bA | apply bN | apply b1 | refine bS ?_ (IsS55.ge HI9006.out) | refine bS ?_ GE9001.out | refine bS ?_ GE9013.out) | exact HB.out))) (fun k_ h_ => h_)) (Kd.R_lt (Kd.R_ext HO9009.out))) (below_size (by repeat (first | (with_reducible first | exact HB.out | apply bA | apply bN | apply b1 | refine bS ?_ (IsS55.ge HI9006.out) | refine bS ?_ GE9001.out | refine bS ?_ GE9013.out) | exact HB.out)))); have n3_ := Aside0.mk (IsS55.below (by repeat (first | (with_reducible first | exact HI9006.out | apply IsS55.alloc | apply IsS55.drewN | apply IsS55.drew | apply IsS55.set_1 | refine IsS55.far ?_ NB9006_9001.out _ | refine IsS55.far ?_ NB9006_9013.out _) | exact HI9006.out)) hb); replace HB := Aside0.mk (below_step (by repeat (first | (with_reducible first | exact HB.out | apply bA | apply bN | apply b1 | refine bS ?_ (IsS55.ge HI9006.out) | refine bS ?_ GE9001.out | refine bS ?_ GE9013.out) | exact HB.out)) hb); clear HI9006; have HI9006 := n3_; replace HO9009 := apR HO9009 hb (Kd.R_base ho26); replace BK9001 := mvB BK9001 hb; replace BK9013 := mvB BK9013 hb; clear n3_; clear hb ho26) | ((with_reducible refine gate_callee (f := 25) rfl ?_); refine goesL_ (some 27) rfl rfl Tryd.func25 (by kernel_rfl) rfl #[.pointer (some ⟨g9006, 0, none⟩), .int .i64 2] rfl goA ?_; (with_reducible refine (customsmade_Source_Next.calls g9006 t9004 t9015 2 t9019 t9020 w _ ?side1 ?side2 A20.out).mono ?_); (case side1 => repeat (first | (with_reducible first | exact HI9006.out | apply IsS55.alloc | apply IsS55.drewN | apply IsS55.drew | apply IsS55.set_1 | refine IsS55.far ?_ NB9006_9001.out _ | refine IsS55.far ?_ NB9006_9013.out _) | exact HI9006.out)); (case side2 => repeat (first | (with_reducible first | exact HB.out | apply bA | apply bN | apply b1 | refine bS ?_ (IsS55.ge HI9006.out) | refine bS ?_ GE9001.out | refine bS ?_ GE9013.out) | exact HB.out)); rintro e w27 ⟨rfl, hi, hb, hk⟩; refine ⟨_, rfl, ?_⟩; replace BK9001 := Aside0.mk (KeepBut.blk hk (g' := gb9001) (o := .cells #[.slice none 0 0, .slice none 0 0, .slice none 0 0, .bool false] 26 (0, 0)) (blk_ext BK9001.out) NB9001_9006.out (by simp)); replace HO9009 := Aside0.mk (Kd.R_mono (Kd.R_keep (IsS55.apart (show IsS55 w _ g9006 t9004 t9015 from by repeat (first | (with_reducible first | exact HI9006.out | apply IsS55.alloc | apply IsS55.drewN | apply IsS55.drew | apply IsS55.set_1 | refine IsS55.far ?_ NB9006_9001.out _ | refine IsS55.far ?_ NB9006_9013.out _) | exact HI9006.out)) (Kd.R_ext HO9009.out) (by decide)) hk (fun _ h => h.2)) (fun _ h => h.1)); replace BK9013 := Aside0.mk (KeepBut.blk hk (g' := gb9013) (o := .cells #[.slice Ao13 t9007.length co13, .slice none 0 0, .slice none 0 0, .bool (t9011 == 1)] 26 (0, 0)) (blk_ext BK9013.out) NB9013_9006.out (by simp)); replace HO9018 := Aside0.mk (Kd.R_mono (Kd.R_keep (IsS55.apart (show IsS55 w _ g9006 t9004 t9015 from by repeat (first | (with_reducible first | exact HI9006.out | apply IsS55.alloc | apply IsS55.drewN | apply IsS55.drew | apply IsS55.set_1 | refine IsS55.far ?_ NB9006_9001.out _ | refine IsS55.far ?_ NB9006_9013.out _) | exact HI9006.out)) (Kd.R_ext HO9018.out) (by decide)) hk (fun _ h => h.2)) (fun _ h => h.1)); replace HB := Aside0.mk (hb); replace HI9006 := Aside0.mk (hi); (try clear hb); (try clear hb2); (try clear hk); (try clear hi); obtain ⟨Ao29, co29, eo29⟩ := Kd.R_slice HO9018.out; subst eo29; have q28 : (t9019 : Int) ≤ ((y9016.length : Int) : Int) := odt; obtain ⟨i028, hi028, _, hsz28, _⟩ := info_parts info9; have hroom28 : y9016.length ≤ co29 := (Kd.R_reads' HO9018.out).2.1; have hC28 : Kd.F Kd.string _ _ Ao29 y9016.length y9016 := (Kd.V_at (base := w.heap.size) (Kd.R_V (IsS55.apart HI9006.out (Kd.R_types (Kd.R_types (HO9018.out) BK9001.out (by decide)) BK9013.out (by decide)) (by decide)))).2.2; have q028 : (0 : Int) ≤ (t9019 : Int) := odt; have hcut28 := cut_from (P := Tryd.prog) 22 9 .i64 Tryd.underlying22 hi028 1 hsz28 Ao29 y9016.length co29 t9019 q028 q28; have hr28 := Kd.F_cut (m := (t9019 : Int).toNat) (c := co29) hC28 (by omega) hroom28; obtain ⟨A28, hA28⟩ : ∃ A1, A1 = (if co29 = (t9019 : Int).toNat then Ao29 else (Ao29 : Option Addr).map (·.add ((t9019 : Int).toNat * 1))) := ⟨_, rfl⟩; obtain ⟨c28, hc28⟩ : ∃ c1, c1 = co29 - (t9019 : Int).toNat := ⟨_, rfl⟩; have hy28 : y9021.length = y9016.length - (t9019 : Int).toNat := (by rw [Ny9021.out, List.length_drop] <;> omega); rw [show (y9016).drop (t9019 : Int).toNat = y9021 from Ny9021.out.symm] at hr28; replace hr28 : Kd.F Kd.string _ _ A28 y9021.length y9021 := (by rw [hA28]; exact hr28); rw [← hy28, ← hA28, ← hc28] at hcut28; have HO9025 := Aside0.mk (show Kd.V Kd.string 9 _ w.heap.size _ (.slice A28 y9021.length c28) y9021 from Kd.V_mk (by rw [hy28, hc28]; exact Nat.sub_le_sub_right hroom28 _) hr28); have HC9025 := Aside0.mk (show y9021.length ≤ c28 from by rw [hy28, hc28]; exact Nat.sub_le_sub_right hroom28 _); clear hr28 hC28 hroom28 hi028 hsz28 hc28; have KY28 := Aside0.mk hy28; have KA28 := Aside0.mk hA28; clear hy28 hA28; replace q28 := eq_true q28) | ((with_reducible refine gate_callee (f := 26) rfl ?_); refine goesL_ (some 34) rfl rfl Tryd.func26 (by kernel_rfl) rfl #[.pointer (some ⟨g9006, 0, none⟩), .int .i64 ji23] rfl (by (try simp only [List.map_toArray, List.map_cons, List.map_nil]); first | done | (simp only [hji23]; rfl) | rfl | (simp only [List.length_drop, List.length_take]; rfl) | (simp only [i64_w]; done) | (simp (disch := decide) only [Int.tdiv_eq_ediv_of_nonneg]; rfl)) ?_; (with_reducible refine (customsmade_Source_shares.calls k g9006 t9004 t9020 ji23 t9026 t9029 w _ ?side1 ?side2 A24.out).mono ?_); (case side1 => repeat (first | (with_reducible first | exact HI9006.out | apply IsS55.alloc | apply IsS55.drewN | apply IsS55.drew | apply IsS55.set_1 | refine IsS55.far ?_ NB9006_9001.out _ | refine IsS55.far ?_ NB9006_9013.out _) | exact HI9006.out)); (case side2 => repeat (first | (with_reducible first | exact HB.out | apply bA | apply bN | apply b1 | refine bS ?_ (IsS55.ge HI9006.out) | refine bS ?_ GE9001.out | refine bS ?_ GE9013.out) | exact HB.out)); rintro e w30 ⟨v9027, rfl, ho0, hi, hb, hk⟩; refine ⟨_, rfl, ?_⟩; replace BK9001 := Aside0.mk (KeepBut.blk hk (g' := gb9001) (o := .cells #[.slice none 0 0, .slice none 0 0, .slice none 0 0, .bool false] 26 (0, 0)) (blk_ext BK9001.out) NB9001_9006.out (by simp)); replace HO9009 := Aside0.mk (Kd.R_mono (Kd.R_keep (IsS55.apart (show IsS55 w _ g9006 t9004 t9020 from by repeat (first | (with_reducible first | exact HI9006.out | apply IsS55.alloc | apply IsS55.drewN | apply IsS55.drew | apply IsS55.set_1 | refine IsS55.far ?_ NB9006_9001.out _ | refine IsS55.far ?_ NB9006_9013.out _) | exact HI9006.out)) (Kd.R_ext HO9009.out) (by decide)) hk (fun _ h => h.2)) (fun _ h => h.1)); replace BK9013 := Aside0.mk (KeepBut.blk hk (g' := gb9013) (o := .cells #[.slice Ao13 t9007.length co13, .slice none 0 0, .slice none 0 0, .bool (t9011 == 1)] 26 (0, 0)) (blk_ext BK9013.out) NB9013_9006.out (by simp)); replace HO9018 := Aside0.mk (Kd.R_mono (Kd.R_keep (IsS55.apart (show IsS55 w _ g9006 t9004 t9020 from by repeat (first | (with_reducible first | exact HI9006.out | apply IsS55.alloc | apply IsS55.drewN | apply IsS55.drew | apply IsS55.set_1 | refine IsS55.far ?_ NB9006_9001.out _ | refine IsS55.far ?_ NB9006_9013.out _) | exact HI9006.out)) (Kd.R_ext HO9018.out) (by decide)) hk (fun _ h => h.2)) (fun _ h => h.1)); replace HO9025 := Aside0.mk (Kd.V_mono (Kd.V_told (Kd.V_oldK (Kd.V_mono (ok := fun k_ => (((((((w.heap.size ≤ k_)) ∧ True) ∧ some k_ ≠ (.slice Ao13 t9007.length co13 : Value).ownBlock) ∧ k_ ≠ gb9001) ∧ k_ ≠ gb9013) ∧ k_ ≠ g9006)) (Kd.V_ext HO9025.out) (fun k_ hk_ => (⟨hk_, hk_.2⟩ : _ ∧ k_ ≠ g9006))) hk) (Kd.R_base ho0)) (fun _ h_ => h_.1)); have HO9028 := Aside0.mk (Kd.R_lower (Kd.R_newM (M := fun k_ => (w.heap.size ≤ k_)) ho0 (below_size (by repeat (first | (with_reducible first | exact HB.out | apply bA | apply bN | apply b1 | refine bS ?_ (IsS55.ge HI9006.out) | refine bS ?_ GE9001.out | refine bS ?_ GE9013.out) | exact HB.out))) (fun k_ h_ => h_)) (below_size (by repeat (first | (with_reducible first | exact HB.out | apply bA | apply bN | apply b1 | refine bS ?_ (IsS55.ge HI9006.out) | refine bS ?_ GE9001.out | refine bS ?_ GE9013.out) | exact HB.out)))); replace HB := Aside0.mk (hb); replace HI9006 := Aside0.mk (hi); (try clear hb); (try clear hb2); (try clear hk); (try clear hi); (try clear ho0)))
   go_loopg [8] k (fun kq v8 w' => ∃ (x8_1 : Int) (x9014001_1 : List (S36)) (u9014001 : Value), v8 = .int .i64 x8_1 ∧ Aside0 (customsmade_Good.l0 kq y9021 t9026 x8_1 t9004 t9029 t9007 x9014001_1 (t9011 == 1) = some (r1, r2, r3, r4)) ∧ Aside0 (kq ≤ k) ∧ Aside0 (Kd.V Kd.string 9 w' w.heap.size (fun k_ => (w.heap.size ≤ k_) ∧ some k_ ≠ (v9027 : Value).ownBlock ∧ some k_ ≠ ((.slice Ao13 t9007.length co13) : Value).ownBlock ∧ some k_ ≠ (u9014001 : Value).ownBlock ∧ k_ ≠ gb9001 ∧ k_ ≠ gb9013 ∧ k_ ≠ g9006) (.slice A28 y9021.length c28) y9021) ∧ Aside0 (Kd.R (Kd.int .i64) 3 w' w.heap.size (fun k_ => (w.heap.size ≤ k_)) v9027 t9026) ∧ Aside0 (Kd.R Kd.string 9 w' w.heap.size (fun k_ => (w.heap.size ≤ k_)) (.slice Ao13 t9007.length co13) t9007) ∧ Aside0 (Kd.R k36 36 w' w.heap.size (fun k_ => (w.heap.size ≤ k_)) u9014001 x9014001_1) ∧ Aside0 (w'.heap[gb9001]? = some (.cells #[(.slice none 0 0), (.slice none 0 0), (.slice none 0 0), .bool false] 26 (0, 0))) ∧ Aside0 (w'.heap[gb9013]? = some (.cells #[(.slice Ao13 t9007.length co13), u9014001, (.slice none 0 0), .bool (t9011 == 1)] 26 (0, 0))) ∧ Aside0 (IsS55 w w' g9006 t9004 t9029) ∧ Aside0 (Below w.heap.size w w'))
   case atStart => exact ⟨(0), (([] : List (S36))), (.slice none 0 0), rls, H', ⟨Nat.le_refl _⟩, ⟨Kd.V_ext (Kd.V_mono HO9025.out (fun _ hk => ⟨hk.1.1.1.1.1.1, ⟨hk.2, ⟨hk.1.1.1.1.2, ⟨(by simp [Value.ownBlock]), ⟨hk.1.1.1.2, ⟨hk.1.1.2, hk.1.2⟩⟩⟩⟩⟩⟩))⟩, ⟨Kd.R_ext (Kd.R_mono HO9028.out (fun _ hk => hk.1))⟩, ⟨Kd.R_ext (Kd.R_mono HO9009.out (fun _ hk => hk.1.1))⟩, ⟨by first | exact Kd.R_nil _ _ _ _ _ | exact Kd.N_nil _ _ _ _ _ | exact Kd.V_nil _ _ _ _ _ | exact Kd.Q_nil _ _ _ _ _ | exact Kd.S_nil _ _ _ _ _⟩, ⟨blk_ext BK9001.out⟩, ⟨blk_ext BK9013.out⟩, ⟨by repeat (first | (with_reducible first | exact HI9006.out | apply IsS55.alloc | apply IsS55.drewN | apply IsS55.drew | apply IsS55.set_1 | refine IsS55.far ?_ NB9006_9001.out _ | refine IsS55.far ?_ NB9006_9013.out _) | exact HI9006.out)⟩, ⟨by repeat (first | (with_reducible first | exact HB.out | apply bA | apply bN | apply b1 | refine bS ?_ (IsS55.ge HI9006.out) | refine bS ?_ GE9001.out | refine bS ?_ GE9013.out) | exact HB.out)⟩⟩
   case round =>
    clear H'
    try clear c1
    try clear c2
    try clear p2
    try clear q2
    try clear c9
    try clear c15
    try clear c16
    try clear c19
    try clear c19b0
    try clear c21
    try clear c21b0
    try clear c21b1
    try clear c22
    try clear c22b0
    try clear c22b1
    try clear c23
    try clear c24
    try clear c25
    try clear c26
    try clear c28
    try clear q28
    try clear hcz17_0 hcz17_1 hcz17_2 hcz17_3
    try clear hfz17_0 hfz17_1 hfz17_2 hfz17_3
    try clear q028
    try clear q28
    obtain ⟨x8_1, x9014001_1, u9014001, rfl, HA, HK1, HO_6, HO_7, HO_9014000, HO_9014001, BK9001, BK9013, HI9006, HB⟩ := hrel
    cases gk with
    | zero => exact absurd HA.out (by simp [customsmade_Good.l0])
    | succ k1 =>
     have H := HA.out
     clear HA
     simp only [customsmade_Good.l0] at H
     by_cases c31 : x8_1 < (t9026.length : Int)
     ·
      rw [if_pos c31] at H
      have c31b0 : decide (x8_1 < (t9026.length : Int)) = true := decide_eq_true c31
      clear c31
      replace H := if_some H; obtain ⟨c32, H⟩ := H
      have c32b0 : decide (0 ≤ x8_1) = true := decide_eq_true c32
      clear c32
      replace H := if_some H; obtain ⟨c33, H⟩ := H
      have c33b0 : decide (x8_1 < (y9021.length : Int)) = true := decide_eq_true c33
      clear c33
      replace H := if_some H; obtain ⟨c34, H⟩ := H
      have LMc34 := Aside0.mk c34
      clear c34
      obtain ⟨y9032, hy9032⟩ : ∃ y_ : List (S36), y_ = (x9014001_1 ++ [(⟨rdOf ByteArray.empty y9021 x8_1, rd t9026 x8_1⟩ : S36)]) := ⟨_, rfl⟩
      replace H : (customsmade_Good.l0 k1 y9021 t9026 (wrap64 (x8_1 + 1)) t9004 t9029 t9007 y9032 (t9011 == 1)) = some (r1, r2, r3, r4) := by first | (rw [hy9032]; with_reducible exact H) | (have H2_ := (Option.bind_some _ _).symm.trans H; rw [hy9032]; with_reducible exact H2_) | (have H2_ := (Option.bind_some _ _).symm.trans H; with_reducible exact H2_) | with_reducible exact H | (rw [hy9032]; exact H) | exact H
      have Ny9032 := Aside0.mk hy9032
      clear hy9032
      have H' := Aside0.mk H
      clear H
      obtain ⟨Ao35, co35, eo35⟩ := Kd.R_slice HO_7.out
      subst eo35
      try go_wp2
      replace HO_6 := Aside0.mk (Kd.V_drew HO_6.out)
      replace HO_7 := Aside0.mk (Kd.R_drew HO_7.out)
      replace HO_9014000 := Aside0.mk (Kd.R_drew HO_9014000.out)
      replace HO_9014001 := Aside0.mk (Kd.R_drew HO_9014001.out)
      replace BK9001 := Aside0.mk (blk_drew BK9001.out)
      replace BK9013 := Aside0.mk (blk_drew BK9013.out)
      replace HI9006 := Aside0.mk (IsS55.drew HI9006.out)
      replace HB := Aside0.mk (below_drew1 HB.out)
      have p9030 : 0 ≤ (x8_1 : Int) := odt
      have q9030 : x8_1 < (y9021.length : Int) := odt
      obtain ⟨ad9030, e9030, hx9030_0⟩ := Kd.at_string (Kd.V_reads' HO_6.out).2.2 x8_1 p9030 q9030
      cases e9030
      replace p9030 := eq_true p9030
      replace q9030 := eq_true q9030
      have p9031 : 0 ≤ (x8_1 : Int) := odt
      have q9031 : x8_1 < (t9026.length : Int) := odt
      obtain ⟨ad9031, e9031, hx9031_0⟩ := Kd.at_int (Kd.R_reads' HO_7.out).2.2 x8_1 p9031 q9031
      cases e9031
      replace p9031 := eq_true p9031
      replace q9031 := eq_true q9031
      refine start_ (n := 15) (S := fun w' => w'.cell? ⟨gb9013, 0, none⟩ = some (.slice Ao13 t9007.length co13) ∧ w'.cell? ⟨gb9013, 1, none⟩ = some (u9014001) ∧ w'.cell? ⟨gb9013, 2, none⟩ = some (.slice none 0 0) ∧ w'.cell? ⟨gb9013, 3, none⟩ = some (.bool (t9011 == 1)) ∧ w'.cell? (ad9030.add (x8_1).toNat) = some (.string (rdOf ByteArray.empty y9021 x8_1)) ∧ w'.cell? (ad9031.add (x8_1).toNat) = some (.int .i64 (rd t9026 x8_1))) (ds := [12, 14]) #[false, false, false, false, false, false, false, false, false, false, false, false, false, false, false] (by kernel_rfl) rfl rfl ⟨bc BK9013 0, bc BK9013 1, bc BK9013 2, bc BK9013 3, hx9030_0, hx9031_0⟩ (fun hHeld => ?_); refine with_tabW customsmade_Good.tab10 customsmade_Good.bits10 (fun HT_ HW_ => ?_)
      generalize wr.drew = w36 at HO_6 HO_7 HO_9014000 HO_9014001 BK9001 BK9013 HI9006 HB hx9030_0 hx9031_0 hHeld ⊢
      refine purE 0 (some 41) HT_ ?_
      refine purE 2 (some 43) HT_ ?_
      refine purE 3 (some 44) HT_ ?_
      refine purE 4 (some 45) HT_ ?_
      refine purE 6 (some 47) HT_ ?_
      refine purE 7 (some 48) HT_ ?_
      refine purE 8 (some 49) HT_ ?_
      refine tkE 1 (some 42) HT_ HW_ hHeld ?_ (hy := by rintro w' ⟨s0, s1, s2, s3, s4, s5⟩; go_simp; with_reducible rfl)
      refine tkE 5 (some 46) HT_ HW_ hHeld ?_ (hy := by rintro w' ⟨s0, s1, s2, s3, s4, s5⟩; go_simp; with_reducible rfl)
      refine tkE 9 (some 50) HT_ HW_ hHeld ?_ (hy := by rintro w' ⟨s0, s1, s2, s3, s4, s5⟩; go_simp; with_reducible rfl)
      refine purE 10 (some 51) HT_ ?_
      refine oneE 11 (some 52) HT_ (fun K hK => ?_)
      refine value_ (w1 := ?_) (v := ?_) (by rfl) rfl ?_ ?_
      rotate_left 2
      ·
       go_simp
       constructor
       ·
        rfl
       ·
        rfl
      refine hK.out _ _ ⟨(blk_cell (blk_alloc BK9013.out _) 0).trans rfl, (blk_cell (blk_alloc BK9013.out _) 1).trans rfl, (blk_cell (blk_alloc BK9013.out _) 2).trans rfl, (blk_cell (blk_alloc BK9013.out _) 3).trans rfl, (World.cell?_alloc_lt _ _ _ (World.block_lt_of_cell? _ _ (hHeld.2.2.2.2.1))).trans (hHeld.2.2.2.2.1), (World.cell?_alloc_lt _ _ _ (World.block_lt_of_cell? _ _ (hHeld.2.2.2.2.2))).trans (hHeld.2.2.2.2.2)⟩ (fun hHeld => ?_)
      clear hK K
      refine nrmE (some 52) ?_
      refine last_ (i := 12) (N := some 53) #[true, true, true, true, true, true, true, true, true, true, true, true, true, false, false] rfl rfl (one_of HT_.out (by kernel_rfl)) (by decide) (fun K hK => ?_)
      refine Kd.R_append_step k36 (w0 := w) w.heap.size (by rfl) (.tmp 42) (.tmp 52) 23 36 (.agg #[(.string ⟨#[]⟩), (.int .i64 0)]) 24 rfl Tryd.underlying23 info36 rfl (by decide) (by omega) u9014001 x9014001_1 (⟨rdOf ByteArray.empty y9021 x8_1, rd t9026 x8_1⟩ : S36) [.string (rdOf ByteArray.empty y9021 x8_1), .int .i64 (rd t9026 x8_1)] (fun k_ => (w.heap.size ≤ k_)) (fun _ => False) rfl rfl ?aP (fun _ hk => hk.elim) ?aF ?aO ?aB ?aS ?aL ?_
      (case aP => exact k36_mkM _ _ _ (⟨rdOf ByteArray.empty y9021 x8_1, rd t9026 x8_1⟩ : S36))
      (case aB => exact (by repeat (first | (with_reducible first | exact HB.out | apply bA | apply bN | apply b1 | refine bS ?_ (IsS55.ge HI9006.out) | refine bS ?_ GE9001.out | refine bS ?_ GE9013.out) | exact HB.out)))
      (case aF => exact (fun k_ hk => (Nat.le_trans (below_size (by repeat (first | (with_reducible first | exact HB.out | apply bA | apply bN | apply b1 | refine bS ?_ (IsS55.ge HI9006.out) | refine bS ?_ GE9001.out | refine bS ?_ GE9013.out) | exact HB.out))) hk)))
      (case aO => exact (Kd.R_ext HO_9014001.out))
      (case aS => exact (below_size (by repeat (first | (with_reducible first | exact HB.out | apply bA | apply bN | apply b1 | refine bS ?_ (IsS55.ge HI9006.out) | refine bS ?_ GE9001.out | refine bS ?_ GE9013.out) | exact HB.out))))
      (case aL => have := LMc34.out; omega)
      intro v9033 w37 ho hb hg hat
      rw [← Ny9032.out] at ho
      replace HO_6 := Aside0.mk (Kd.V_afterv (ok := (fun k_ => (w.heap.size ≤ k_) ∧ some k_ ≠ (.slice (some ad9031) t9026.length co35 : Value).ownBlock ∧ some k_ ≠ (.slice Ao13 t9007.length co13 : Value).ownBlock ∧ k_ ≠ gb9001 ∧ k_ ≠ gb9013 ∧ k_ ≠ g9006)) (Kd.V_ext (Kd.V_mono HO_6.out (fun _ hk => ⟨⟨hk.1, ⟨hk.2.1, ⟨hk.2.2.1, ⟨hk.2.2.2.2.1, ⟨hk.2.2.2.2.2.1, hk.2.2.2.2.2.2⟩⟩⟩⟩⟩, hk.2.2.2.1⟩))) hg hat)
      replace HO_7 := Aside0.mk (Kd.R_over' (Kd.R_ext HO_7.out) (Kd.R_typed (Kd.R_ext HO_9014001.out)) (by decide) hg)
      replace HO_9014000 := Aside0.mk (Kd.R_over' (Kd.R_ext HO_9014000.out) (Kd.R_typed (Kd.R_ext HO_9014001.out)) (by decide) hg)
      replace BK9001 := Aside0.mk (blk_grown (g := gb9001) (o := .cells #[.slice none 0 0, .slice none 0 0, .slice none 0 0, .bool false] 26 (0, 0)) (blk_ext BK9001.out) hg (Kd.R_ne HO_9014001.out BK9001.out (by decide)))
      replace BK9013 := Aside0.mk (blk_grown (g := gb9013) (o := .cells #[.slice Ao13 t9007.length co13, u9014001, .slice none 0 0, .bool (t9011 == 1)] 26 (0, 0)) (blk_ext BK9013.out) hg (Kd.R_ne HO_9014001.out BK9013.out (by decide)))
      replace HI9006 := Aside0.mk (IsS55.grown (by repeat (first | (with_reducible first | exact HI9006.out | apply IsS55.alloc | apply IsS55.drewN | apply IsS55.drew | apply IsS55.set_1 | refine IsS55.far ?_ NB9006_9001.out _ | refine IsS55.far ?_ NB9006_9013.out _) | exact HI9006.out)) hg (IsS55.own_ne HI9006.out HO_9014001.out (by decide)))
      replace HB := Aside0.mk (hb)
      have HO9034 := Aside0.mk (ho)
      clear HO_9014001
      clear ho hb hg hat
      obtain ⟨Ao38, co38, eo38⟩ := Kd.R_slice HO9034.out
      (first | subst eo38 | (injection eo38 with f1_ f2_ f3_; have f4_ := f1_.symm; have f5_ := f3_.symm; clear f1_ f2_ f3_; subst f4_; subst f5_))
      refine hK.out _ _ ?_
      clear hK K
      refine nrmE (some 53) ?_
      refine purE 13 (some 54) HT_ ?_
      refine last_ (i := 14) (N := none) #[true, true, true, true, true, true, true, true, true, true, true, true, true, true, true] rfl rfl (one_of HT_.out (by kernel_rfl)) (by decide) (fun K hK => ?_)
      have hs39 : w37.cell? ⟨gb9013, 1, none⟩ = some (u9014001) := (blk_cell BK9013.out 1).trans rfl
      have hfs39 := blk_frozen BK9013.out 1
      have hns39_0 := NB9001_9013.out
      have hms39_0 := NB9013_9001.out
      refine skip_ (w1 := ?_) (by rfl) rfl ?_ ?_
      rotate_left
      ·
       go_simp
       rfl
      refine hK.out _ _ ?_
      clear hK K
      refine done_ (done_of HT_.out (by kernel_rfl)) ?_
      try go_wp2
      go_roundg k1
      case measure => have := HK1.out; omega
      case rel => exact ⟨(wrap64 (x8_1 + 1)), (y9032), (.slice Ao38 y9032.length co38), rls, H', ⟨by have := HK1.out; omega⟩, ⟨Kd.V_ext (Kd.V_mono (Kd.V_far (p := ⟨gb9013, 1, none⟩) (Kd.V_mono HO_6.out (fun k_ hk => (⟨hk, hk.1.2.2.2.2.1⟩ : _ ∧ k_ ≠ gb9013))) (fun _ hk => hk.2) (.slice Ao38 y9032.length co38)) (fun _ hk => ⟨hk.1.1.1, ⟨hk.1.1.2.1, ⟨hk.1.1.2.2.1, ⟨hk.1.2, ⟨hk.1.1.2.2.2.1, ⟨hk.1.1.2.2.2.2.1, hk.1.1.2.2.2.2.2⟩⟩⟩⟩⟩⟩))⟩, ⟨Kd.R_ext (Kd.R_mono (Kd.R_far (p := ⟨gb9013, 1, none⟩) (Kd.R_types HO_7.out BK9013.out (by decide)) (fun _ hk => hk.2) (.slice Ao38 y9032.length co38)) (fun _ hk => hk.1))⟩, ⟨Kd.R_ext (Kd.R_mono (Kd.R_far (p := ⟨gb9013, 1, none⟩) (Kd.R_types HO_9014000.out BK9013.out (by decide)) (fun _ hk => hk.2) (.slice Ao38 y9032.length co38)) (fun _ hk => hk.1))⟩, ⟨Kd.R_ext (Kd.R_mono (Kd.R_far (p := ⟨gb9013, 1, none⟩) (Kd.R_types HO9034.out BK9013.out (by decide)) (fun _ hk => hk.2) (.slice Ao38 y9032.length co38)) (fun _ hk => hk.1))⟩, ⟨blk_extC BK9001.out⟩, ⟨by (with_reducible repeat (first | refine blk_drewN ?_ _ | refine blk_drew ?_ | refine blk_alloc ?_ _)); refine blk_put (cs := #[.slice Ao13 t9007.length co13, u9014001, .slice none 0 0, .bool (t9011 == 1)]) ?_ 1 _ rfl; exact blk_ext BK9013.out⟩, ⟨by repeat (first | (with_reducible first | exact HI9006.out | apply IsS55.alloc | apply IsS55.drewN | apply IsS55.drew | apply IsS55.set_1 | refine IsS55.far ?_ NB9006_9001.out _ | refine IsS55.far ?_ NB9006_9013.out _) | exact HI9006.out)⟩, ⟨by repeat (first | (with_reducible first | exact HB.out | apply bA | apply bN | apply b1 | refine bS ?_ (IsS55.ge HI9006.out) | refine bS ?_ GE9001.out | refine bS ?_ GE9013.out) | exact HB.out)⟩⟩
     ·
      rw [if_neg c31] at H
      have c31b0 : decide (x8_1 < (t9026.length : Int)) = false := decide_eq_false c31
      clear c31
      have H' := Aside0.mk H
      clear H
      obtain ⟨Ao40, co40, eo40⟩ := Kd.R_slice HO_7.out
      subst eo40
      go_wp2
      go_meet
      case rel => exact ⟨_, (t9029), (x9014001_1), (u9014001), H', ⟨by have := HK1.out; first | omega | exact Nat.le_refl _⟩, ⟨Kd.R_ext HO_9014000.out⟩, ⟨Kd.R_ext HO_9014001.out⟩, ⟨blk_ext BK9001.out⟩, ⟨blk_ext BK9013.out⟩, ⟨by repeat (first | (with_reducible first | exact HI9006.out | apply IsS55.alloc | apply IsS55.drewN | apply IsS55.drew | apply IsS55.set_1 | refine IsS55.far ?_ NB9006_9001.out _ | refine IsS55.far ?_ NB9006_9013.out _) | exact HI9006.out)⟩, ⟨by repeat (first | (with_reducible first | exact HB.out | apply bA | apply bN | apply b1 | refine bS ?_ (IsS55.ge HI9006.out) | refine bS ?_ GE9001.out | refine bS ?_ GE9013.out) | exact HB.out)⟩⟩
  ·
   rw [if_neg c19] at H
   have c19b0 : decide (0 < t9014) = false := decide_eq_false c19
   clear c19
   (first | rw [c19b0] | (simp only [i64_w, i32_w]; rw [c19b0]) | rw [c19b1] | skip)
   have H' := Aside0.mk H
   clear H
   go_wp2
   go_meet
   case rel => exact ⟨_, (t9015), (([] : List (S36))), (.slice none 0 0), H', ⟨by first | omega | exact Nat.le_refl _⟩, ⟨Kd.R_ext (Kd.R_mono HO9009.out (fun _ hk => hk.1))⟩, ⟨by first | exact Kd.R_nil _ _ _ _ _ | exact Kd.N_nil _ _ _ _ _ | exact Kd.V_nil _ _ _ _ _ | exact Kd.Q_nil _ _ _ _ _ | exact Kd.S_nil _ _ _ _ _⟩, ⟨blk_ext BK9001.out⟩, ⟨blk_ext BK9013.out⟩, ⟨by repeat (first | (with_reducible first | exact HI9006.out | apply IsS55.alloc | apply IsS55.drewN | apply IsS55.drew | apply IsS55.set_1 | refine IsS55.far ?_ NB9006_9001.out _ | refine IsS55.far ?_ NB9006_9013.out _) | exact HI9006.out)⟩, ⟨by repeat (first | (with_reducible first | exact HB.out | apply bA | apply bN | apply b1 | refine bS ?_ (IsS55.ge HI9006.out) | refine bS ?_ GE9001.out | refine bS ?_ GE9013.out) | exact HB.out)⟩⟩
 case rest =>
  clear HC7
  try clear c1
  try clear c2
  try clear p2
  try clear q2
  try clear c3
  try clear p6
  try clear c9
  try clear p9
  try clear q9
  try clear hx9
  try clear c15
  try clear c16
  try clear c19
  try clear c19b0
  try clear c21
  try clear c21b0
  try clear c21b1
  try clear c22
  try clear c22b0
  try clear c22b1
  try clear c23
  try clear c24
  try clear c25
  try clear c26
  try clear c28
  try clear q28
  try clear c31
  try clear c31b0
  try clear c32
  try clear c32b0
  try clear c33
  try clear c33b0
  try clear c34
  try clear hcz17_0 hcz17_1 hcz17_2 hcz17_3
  try clear hfz17_0 hfz17_1 hfz17_2 hfz17_3
  try clear hx9030_0
  try clear hx9031_0
  try clear p2
  try clear p9030
  try clear p9031
  try clear q028
  try clear q2
  try clear q28
  try clear q9030
  try clear q9031
  obtain ⟨kq, x9007001_6, x9014001_6, u9014001, HA, HJ6, HO_9014000, HO_9014001, BK9001, BK9013, HI9006, HB⟩ := hcut
  cases kq with
  | zero => exact absurd HA.out (by simp [customsmade_Good.j1])
  | succ kj6 =>
   have H := HA.out
   clear HA
   simp only [customsmade_Good.j1] at H
   replace H := Option.bind_eq_some_iff.mp H
   obtain ⟨⟨t9035, t9036⟩, A410, H⟩ := H
   replace H : (if t9035 = 1 then ((customsmade_Source_Next.f t9004 t9036 3).bind fun bt9037 => ((customsmade_Source_shares.f kj6 t9004 bt9037.2 (wrap64 (1 + bt9037.1))).bind fun bt9039 => (customsmade_Good.l1 kj6 bt9039.1 0 t9004 bt9039.2 t9007 x9014001_6 ([] : List (S38)) (t9011 == 1)))) else (some (t9007, x9014001_6, ([] : List (S38)), (t9011 == 1)))) = some (r1, r2, r3, r4) := H
   have A41 := Aside0.mk A410
   clear A410
   by_cases c42 : t9035 = 1
   ·
    rw [if_pos c42] at H
    have c42b0 : (t9035 == 1) = true := beq_iff_eq.mpr c42
    have c42b1 : (t9035 != 1) = false := bne_eq_false_iff_eq.mpr c42
    clear c42
    replace H := Option.bind_eq_some_iff.mp H
    obtain ⟨⟨t9037, t9038⟩, A430, H⟩ := H
    replace H : ((customsmade_Source_shares.f kj6 t9004 t9038 (wrap64 (1 + t9037))).bind fun bt9039 => (customsmade_Good.l1 kj6 bt9039.1 0 t9004 bt9039.2 t9007 x9014001_6 ([] : List (S38)) (t9011 == 1))) = some (r1, r2, r3, r4) := H
    have A43 := Aside0.mk A430
    clear A430
    replace H := Option.bind_eq_some_iff.mp H
    obtain ⟨⟨t9039, t9042⟩, A440, H⟩ := H
    replace H : (customsmade_Good.l1 kj6 t9039 0 t9004 t9042 t9007 x9014001_6 ([] : List (S38)) (t9011 == 1)) = some (r1, r2, r3, r4) := H
    have A44 := Aside0.mk A440
    clear A440
    have H' := Aside0.mk H
    clear H
    go_wp2_with (first | ((with_reducible refine gate_callee (f := 25) rfl ?_); refine goesL_ (some 56) rfl rfl Tryd.func25 (by kernel_rfl) rfl #[.pointer (some ⟨g9006, 0, none⟩), .int .i64 3] rfl goA ?_; (with_reducible refine (customsmade_Source_Next.calls g9006 t9004 x9007001_6 3 t9035 t9036 w _ ?side1 ?side2 A41.out).mono ?_); (case side1 => repeat (first | (with_reducible first | exact HI9006.out | apply IsS55.alloc | apply IsS55.drewN | apply IsS55.drew | apply IsS55.set_1 | refine IsS55.far ?_ NB9006_9001.out _ | refine IsS55.far ?_ NB9006_9013.out _) | exact HI9006.out)); (case side2 => repeat (first | (with_reducible first | exact HB.out | apply bA | apply bN | apply b1 | refine bS ?_ (IsS55.ge HI9006.out) | refine bS ?_ GE9001.out | refine bS ?_ GE9013.out) | exact HB.out)); rintro e w45 ⟨rfl, hi, hb, hk⟩; refine ⟨_, rfl, ?_⟩; replace HO_9014000 := Aside0.mk (Kd.R_mono (Kd.R_keep (IsS55.apart (show IsS55 w _ g9006 t9004 x9007001_6 from by repeat (first | (with_reducible first | exact HI9006.out | apply IsS55.alloc | apply IsS55.drewN | apply IsS55.drew | apply IsS55.set_1 | refine IsS55.far ?_ NB9006_9001.out _ | refine IsS55.far ?_ NB9006_9013.out _) | exact HI9006.out)) (Kd.R_ext HO_9014000.out) (by decide)) hk (fun _ h => h.2)) (fun _ h => h.1)); replace HO_9014001 := Aside0.mk (Kd.R_mono (Kd.R_keep (IsS55.apart (show IsS55 w _ g9006 t9004 x9007001_6 from by repeat (first | (with_reducible first | exact HI9006.out | apply IsS55.alloc | apply IsS55.drewN | apply IsS55.drew | apply IsS55.set_1 | refine IsS55.far ?_ NB9006_9001.out _ | refine IsS55.far ?_ NB9006_9013.out _) | exact HI9006.out)) (Kd.R_ext HO_9014001.out) (by decide)) hk (fun _ h => h.2)) (fun _ h => h.1)); replace BK9001 := Aside0.mk (KeepBut.blk hk (g' := gb9001) (o := .cells #[.slice none 0 0, .slice none 0 0, .slice none 0 0, .bool false] 26 (0, 0)) (blk_ext BK9001.out) NB9001_9006.out (by simp)); replace BK9013 := Aside0.mk (KeepBut.blk hk (g' := gb9013) (o := .cells #[.slice Ao13 t9007.length co13, u9014001, .slice none 0 0, .bool (t9011 == 1)] 26 (0, 0)) (blk_ext BK9013.out) NB9013_9006.out (by simp)); replace HB := Aside0.mk (hb); replace HI9006 := Aside0.mk (hi); (try clear hb); (try clear hb2); (try clear hk); (try clear hi)) | ((with_reducible refine gate_callee (f := 25) rfl ?_); refine goesL_ (some 60) rfl rfl Tryd.func25 (by kernel_rfl) rfl #[.pointer (some ⟨g9006, 0, none⟩), .int .i64 3] rfl goA ?_; (with_reducible refine (customsmade_Source_Next.calls g9006 t9004 t9036 3 t9037 t9038 w _ ?side1 ?side2 A43.out).mono ?_); (case side1 => repeat (first | (with_reducible first | exact HI9006.out | apply IsS55.alloc | apply IsS55.drewN | apply IsS55.drew | apply IsS55.set_1 | refine IsS55.far ?_ NB9006_9001.out _ | refine IsS55.far ?_ NB9006_9013.out _) | exact HI9006.out)); (case side2 => repeat (first | (with_reducible first | exact HB.out | apply bA | apply bN | apply b1 | refine bS ?_ (IsS55.ge HI9006.out) | refine bS ?_ GE9001.out | refine bS ?_ GE9013.out) | exact HB.out)); rintro e w46 ⟨rfl, hi, hb, hk⟩; refine ⟨_, rfl, ?_⟩; replace HO_9014000 := Aside0.mk (Kd.R_mono (Kd.R_keep (IsS55.apart (show IsS55 w _ g9006 t9004 t9036 from by repeat (first | (with_reducible first | exact HI9006.out | apply IsS55.alloc | apply IsS55.drewN | apply IsS55.drew | apply IsS55.set_1 | refine IsS55.far ?_ NB9006_9001.out _ | refine IsS55.far ?_ NB9006_9013.out _) | exact HI9006.out)) (Kd.R_ext HO_9014000.out) (by decide)) hk (fun _ h => h.2)) (fun _ h => h.1)); replace HO_9014001 := Aside0.mk (Kd.R_mono (Kd.R_keep (IsS55.apart (show IsS55 w _ g9006 t9004 t9036 from by repeat (first | (with_reducible first | exact HI9006.out | apply IsS55.alloc | apply IsS55.drewN | apply IsS55.drew | apply IsS55.set_1 | refine IsS55.far ?_ NB9006_9001.out _ | refine IsS55.far ?_ NB9006_9013.out _) | exact HI9006.out)) (Kd.R_ext HO_9014001.out) (by decide)) hk (fun _ h => h.2)) (fun _ h => h.1)); replace BK9001 := Aside0.mk (KeepBut.blk hk (g' := gb9001) (o := .cells #[.slice none 0 0, .slice none 0 0, .slice none 0 0, .bool false] 26 (0, 0)) (blk_ext BK9001.out) NB9001_9006.out (by simp)); replace BK9013 := Aside0.mk (KeepBut.blk hk (g' := gb9013) (o := .cells #[.slice Ao13 t9007.length co13, u9014001, .slice none 0 0, .bool (t9011 == 1)] 26 (0, 0)) (blk_ext BK9013.out) NB9013_9006.out (by simp)); replace HB := Aside0.mk (hb); replace HI9006 := Aside0.mk (hi); (try clear hb); (try clear hb2); (try clear hk); (try clear hi)) | ((with_reducible refine gate_callee (f := 26) rfl ?_); refine goesL_ (some 62) rfl rfl Tryd.func26 (by kernel_rfl) rfl #[.pointer (some ⟨g9006, 0, none⟩), .int .i64 (wrap64 (1 + t9037))] rfl goA ?_; (with_reducible refine (customsmade_Source_shares.calls kj6 g9006 t9004 t9038 (wrap64 (1 + t9037)) t9039 t9042 w _ ?side1 ?side2 A44.out).mono ?_); (case side1 => repeat (first | (with_reducible first | exact HI9006.out | apply IsS55.alloc | apply IsS55.drewN | apply IsS55.drew | apply IsS55.set_1 | refine IsS55.far ?_ NB9006_9001.out _ | refine IsS55.far ?_ NB9006_9013.out _) | exact HI9006.out)); (case side2 => repeat (first | (with_reducible first | exact HB.out | apply bA | apply bN | apply b1 | refine bS ?_ (IsS55.ge HI9006.out) | refine bS ?_ GE9001.out | refine bS ?_ GE9013.out) | exact HB.out)); rintro e w47 ⟨v9040, rfl, ho0, hi, hb, hk⟩; refine ⟨_, rfl, ?_⟩; replace HO_9014000 := Aside0.mk (Kd.R_mono (Kd.R_keep (IsS55.apart (show IsS55 w _ g9006 t9004 t9038 from by repeat (first | (with_reducible first | exact HI9006.out | apply IsS55.alloc | apply IsS55.drewN | apply IsS55.drew | apply IsS55.set_1 | refine IsS55.far ?_ NB9006_9001.out _ | refine IsS55.far ?_ NB9006_9013.out _) | exact HI9006.out)) (Kd.R_ext HO_9014000.out) (by decide)) hk (fun _ h => h.2)) (fun _ h => h.1)); replace HO_9014001 := Aside0.mk (Kd.R_mono (Kd.R_keep (IsS55.apart (show IsS55 w _ g9006 t9004 t9038 from by repeat (first | (with_reducible first | exact HI9006.out | apply IsS55.alloc | apply IsS55.drewN | apply IsS55.drew | apply IsS55.set_1 | refine IsS55.far ?_ NB9006_9001.out _ | refine IsS55.far ?_ NB9006_9013.out _) | exact HI9006.out)) (Kd.R_ext HO_9014001.out) (by decide)) hk (fun _ h => h.2)) (fun _ h => h.1)); replace BK9001 := Aside0.mk (KeepBut.blk hk (g' := gb9001) (o := .cells #[.slice none 0 0, .slice none 0 0, .slice none 0 0, .bool false] 26 (0, 0)) (blk_ext BK9001.out) NB9001_9006.out (by simp)); replace BK9013 := Aside0.mk (KeepBut.blk hk (g' := gb9013) (o := .cells #[.slice Ao13 t9007.length co13, u9014001, .slice none 0 0, .bool (t9011 == 1)] 26 (0, 0)) (blk_ext BK9013.out) NB9013_9006.out (by simp)); have HO9041 := Aside0.mk (Kd.R_lower (Kd.R_newM (M := fun k_ => (w.heap.size ≤ k_)) ho0 (below_size (by repeat (first | (with_reducible first | exact HB.out | apply bA | apply bN | apply b1 | refine bS ?_ (IsS55.ge HI9006.out) | refine bS ?_ GE9001.out | refine bS ?_ GE9013.out) | exact HB.out))) (fun k_ h_ => h_)) (below_size (by repeat (first | (with_reducible first | exact HB.out | apply bA | apply bN | apply b1 | refine bS ?_ (IsS55.ge HI9006.out) | refine bS ?_ GE9001.out | refine bS ?_ GE9013.out) | exact HB.out)))); replace HB := Aside0.mk (hb); replace HI9006 := Aside0.mk (hi); (try clear hb); (try clear hb2); (try clear hk); (try clear hi); (try clear ho0)))
    go_loopg [10] kj6 (fun kq v10 w' => ∃ (x10_2 : Int) (x9007001_2 : Int) (x9014002_2 : List (S38)) (u9014002 : Value), v10 = .int .i64 x10_2 ∧ Aside0 (customsmade_Good.l1 kq t9039 x10_2 t9004 x9007001_2 t9007 x9014001_6 x9014002_2 (t9011 == 1) = some (r1, r2, r3, r4)) ∧ Aside0 (kq ≤ kj6) ∧ Aside0 (Kd.R (Kd.int .i64) 3 w' w.heap.size (fun k_ => (w.heap.size ≤ k_)) v9040 t9039) ∧ Aside0 (Kd.R Kd.string 9 w' w.heap.size (fun k_ => (w.heap.size ≤ k_)) (.slice Ao13 t9007.length co13) t9007) ∧ Aside0 (Kd.R k36 36 w' w.heap.size (fun k_ => (w.heap.size ≤ k_)) u9014001 x9014001_6) ∧ Aside0 (Kd.N k38 38 w' w.heap.size (fun k_ => (w.heap.size ≤ k_) ∧ some k_ ≠ (v9040 : Value).ownBlock ∧ some k_ ≠ ((.slice Ao13 t9007.length co13) : Value).ownBlock ∧ some k_ ≠ (u9014001 : Value).ownBlock ∧ k_ ≠ gb9001 ∧ k_ ≠ gb9013 ∧ k_ ≠ g9006) u9014002 x9014002_2) ∧ Aside0 (w'.heap[gb9001]? = some (.cells #[(.slice none 0 0), (.slice none 0 0), (.slice none 0 0), .bool false] 26 (0, 0))) ∧ Aside0 (w'.heap[gb9013]? = some (.cells #[(.slice Ao13 t9007.length co13), u9014001, u9014002, .bool (t9011 == 1)] 26 (0, 0))) ∧ Aside0 (IsS55 w w' g9006 t9004 x9007001_2) ∧ Aside0 (Below w.heap.size w w'))
    case atStart => exact ⟨(0), (t9042), (([] : List (S38))), (.slice none 0 0), rls, H', ⟨Nat.le_refl _⟩, ⟨Kd.R_ext (Kd.R_mono HO9041.out (fun _ hk => hk.1))⟩, ⟨Kd.R_ext HO_9014000.out⟩, ⟨Kd.R_ext HO_9014001.out⟩, ⟨by first | exact Kd.S_nil _ _ _ _ _ | exact Kd.N_nil _ _ _ _ _ | exact Kd.V_nil _ _ _ _ _ | exact Kd.Q_nil _ _ _ _ _ | exact Kd.R_nil _ _ _ _ _⟩, ⟨blk_ext BK9001.out⟩, ⟨blk_ext BK9013.out⟩, ⟨by repeat (first | (with_reducible first | exact HI9006.out | apply IsS55.alloc | apply IsS55.drewN | apply IsS55.drew | apply IsS55.set_1 | refine IsS55.far ?_ NB9006_9001.out _ | refine IsS55.far ?_ NB9006_9013.out _) | exact HI9006.out)⟩, ⟨by repeat (first | (with_reducible first | exact HB.out | apply bA | apply bN | apply b1 | refine bS ?_ (IsS55.ge HI9006.out) | refine bS ?_ GE9001.out | refine bS ?_ GE9013.out) | exact HB.out)⟩⟩
    case round =>
     clear H'
     try clear c1
     try clear c2
     try clear p2
     try clear q2
     try clear c3
     try clear c4
     try clear p6
     try clear c9
     try clear p9
     try clear q9
     try clear hx9
     try clear c15
     try clear c16
     try clear c19
     try clear c19b0
     try clear c21
     try clear c21b0
     try clear c21b1
     try clear c22
     try clear c22b0
     try clear c22b1
     try clear c23
     try clear c24
     try clear c25
     try clear c26
     try clear c28
     try clear q28
     try clear c31
     try clear c31b0
     try clear c32
     try clear c32b0
     try clear c33
     try clear c33b0
     try clear c34
     try clear c42
     try clear c42b0
     try clear c42b1
     try clear hcz17_0 hcz17_1 hcz17_2 hcz17_3
     try clear hfz17_0 hfz17_1 hfz17_2 hfz17_3
     try clear hx9030_0
     try clear hx9031_0
     try clear p2
     try clear p6
     try clear p9
     try clear p9030
     try clear p9031
     try clear q028
     try clear q2
     try clear q28
     try clear q9
     try clear q9030
     try clear q9031
     obtain ⟨x10_2, x9007001_2, x9014002_2, u9014002, rfl, HA, HK2, HO_9, HO_9014000, HO_9014001, HO_9014002, BK9001, BK9013, HI9006, HB⟩ := hrel
     cases gk with
     | zero => exact absurd HA.out (by simp [customsmade_Good.l1])
     | succ k2 =>
      have H := HA.out
      clear HA
      simp only [customsmade_Good.l1] at H
      by_cases c48 : x10_2 < (t9039.length : Int)
      ·
       rw [if_pos c48] at H
       have c48b0 : decide (x10_2 < (t9039.length : Int)) = true := decide_eq_true c48
       clear c48
       replace H := Option.bind_eq_some_iff.mp H
       obtain ⟨⟨t9043, t9046⟩, A490, H⟩ := H
       replace H : (if 0 ≤ x10_2 then (if x9014002_2.length < 4398046511104 then (customsmade_Good.l1 k2 t9039 (wrap64 (x10_2 + 1)) t9004 t9046 t9007 x9014001_6 (x9014002_2 ++ [(⟨t9043, rd t9039 x10_2⟩ : S38)]) (t9011 == 1)) else (none)) else (none)) = some (r1, r2, r3, r4) := H
       have A49 := Aside0.mk A490
       clear A490
       replace H := if_some H; obtain ⟨c50, H⟩ := H
       have c50b0 : decide (0 ≤ x10_2) = true := decide_eq_true c50
       clear c50
       replace H := if_some H; obtain ⟨c51, H⟩ := H
       have LMc51 := Aside0.mk c51
       clear c51
       obtain ⟨y9048, hy9048⟩ : ∃ y_ : List (S38), y_ = (x9014002_2 ++ [(⟨t9043, rd t9039 x10_2⟩ : S38)]) := ⟨_, rfl⟩
       replace H : (customsmade_Good.l1 k2 t9039 (wrap64 (x10_2 + 1)) t9004 t9046 t9007 x9014001_6 y9048 (t9011 == 1)) = some (r1, r2, r3, r4) := by first | (rw [hy9048]; with_reducible exact H) | (have H2_ := (Option.bind_some _ _).symm.trans H; rw [hy9048]; with_reducible exact H2_) | (have H2_ := (Option.bind_some _ _).symm.trans H; with_reducible exact H2_) | with_reducible exact H | (rw [hy9048]; exact H) | exact H
       have Ny9048 := Aside0.mk hy9048
       clear hy9048
       have H' := Aside0.mk H
       clear H
       obtain ⟨Ao52, co52, eo52⟩ := Kd.R_slice HO_9.out
       subst eo52
       try go_wp2
       replace HO_9 := Aside0.mk (Kd.R_drew HO_9.out)
       replace HO_9014000 := Aside0.mk (Kd.R_drew HO_9014000.out)
       replace HO_9014001 := Aside0.mk (Kd.R_drew HO_9014001.out)
       replace HO_9014002 := Aside0.mk (Kd.N_drew HO_9014002.out)
       replace BK9001 := Aside0.mk (blk_drew BK9001.out)
       replace BK9013 := Aside0.mk (blk_drew BK9013.out)
       replace HI9006 := Aside0.mk (IsS55.drew HI9006.out)
       replace HB := Aside0.mk (below_drew1 HB.out)
       have p9047 : 0 ≤ (x10_2 : Int) := odt
       have q9047 : x10_2 < (t9039.length : Int) := odt
       obtain ⟨ad9047, e9047, hx9047_0⟩ := Kd.at_int (Kd.R_reads' HO_9.out).2.2 x10_2 p9047 q9047
       cases e9047
       replace p9047 := eq_true p9047
       replace q9047 := eq_true q9047
       refine start_ (n := 13) (S := fun w' => w'.cell? ⟨gb9013, 0, none⟩ = some (.slice Ao13 t9007.length co13) ∧ w'.cell? ⟨gb9013, 1, none⟩ = some (u9014001) ∧ w'.cell? ⟨gb9013, 2, none⟩ = some (u9014002) ∧ w'.cell? ⟨gb9013, 3, none⟩ = some (.bool (t9011 == 1)) ∧ w'.cell? (ad9047.add (x10_2).toNat) = some (.int .i64 (rd t9039 x10_2))) (ds := [10, 12]) #[false, false, false, false, false, false, false, false, false, false, false, false, false] (by kernel_rfl) rfl rfl ⟨bc BK9013 0, bc BK9013 1, bc BK9013 2, bc BK9013 3, hx9047_0⟩ (fun hHeld => ?_); refine with_tabW customsmade_Good.tab16 customsmade_Good.bits16 (fun HT_ HW_ => ?_)
       generalize wr.drew = w53 at HO_9 HO_9014000 HO_9014001 HO_9014002 BK9001 BK9013 HI9006 HB hx9047_0 hHeld ⊢
       refine purE 0 (some 69) HT_ ?_
       refine purE 2 (some 71) HT_ ?_
       refine purE 4 (some 73) HT_ ?_
       refine purE 5 (some 74) HT_ ?_
       refine purE 6 (some 75) HT_ ?_
       refine tkE 1 (some 70) HT_ HW_ hHeld ?_ (hy := by rintro w' ⟨s0, s1, s2, s3, s4⟩; go_simp; with_reducible rfl)
       refine tkE 7 (some 76) HT_ HW_ hHeld ?_ (hy := by rintro w' ⟨s0, s1, s2, s3, s4⟩; go_simp; with_reducible rfl)
       refine oneE 3 (some 72) HT_ (fun K hK => ?_)
       refine goes_ Tryd.func24 (by kernel_rfl) rfl #[.pointer (some ⟨g9006, 0, none⟩), .int .i64 3] (by rfl) rfl rfl goB ?_
       with_reducible refine (customsmade_Source_Words.calls k2 g9006 t9004 x9007001_2 3 t9043 t9046 w _ ?side1 ?side2 A49.out).mono ?_
       (case side1 => repeat (first | (with_reducible first | exact HI9006.out | apply IsS55.alloc | apply IsS55.drewN | apply IsS55.drew | apply IsS55.set_1 | refine IsS55.far ?_ NB9006_9001.out _ | refine IsS55.far ?_ NB9006_9013.out _) | exact HI9006.out))
       (case side2 => repeat (first | (with_reducible first | exact HB.out | apply bA | apply bN | apply b1 | refine bS ?_ (IsS55.ge HI9006.out) | refine bS ?_ GE9001.out | refine bS ?_ GE9013.out) | exact HB.out))
       rintro e w54 ⟨v9044, rfl, ho0, hi, hb, hk⟩
       have HS4_ := keep_cell hk (hHeld.2.2.2.2) (by first | (rw [add_block]; exact Kd.own_blk (IsS55.own_ne HI9006.out HO_9.out (by decide))) | (show (Addr.add _ _).block ≠ _; rw [add_block]; exact Kd.own_blk (IsS55.own_ne HI9006.out HO_9.out (by decide))) | exact Kd.own_blk (IsS55.own_ne HI9006.out HO_9.out (by decide)))
       refine ⟨_, rfl, ?_⟩
       replace HO_9 := Aside0.mk (Kd.R_mono (Kd.R_keep (IsS55.apart (show IsS55 w _ g9006 t9004 x9007001_2 from by repeat (first | (with_reducible first | exact HI9006.out | apply IsS55.alloc | apply IsS55.drewN | apply IsS55.drew | apply IsS55.set_1 | refine IsS55.far ?_ NB9006_9001.out _ | refine IsS55.far ?_ NB9006_9013.out _) | exact HI9006.out)) (Kd.R_ext HO_9.out) (by decide)) hk (fun _ h => h.2)) (fun _ h => h.1))
       have n1_ := Aside0.mk (Kd.R_mono (Kd.R_told (Kd.R_oldK (IsS55.apart (show IsS55 w _ g9006 t9004 x9007001_2 from by repeat (first | (with_reducible first | exact HI9006.out | apply IsS55.alloc | apply IsS55.drewN | apply IsS55.drew | apply IsS55.set_1 | refine IsS55.far ?_ NB9006_9001.out _ | refine IsS55.far ?_ NB9006_9013.out _) | exact HI9006.out)) (Kd.R_ext HO_9014000.out) (by decide)) hk) (Kd.R_base ho0)) (fun _ h_ => h_.1))
       replace HO_9014001 := Aside0.mk (Kd.R_mono (Kd.R_keep (IsS55.apart (show IsS55 w _ g9006 t9004 x9007001_2 from by repeat (first | (with_reducible first | exact HI9006.out | apply IsS55.alloc | apply IsS55.drewN | apply IsS55.drew | apply IsS55.set_1 | refine IsS55.far ?_ NB9006_9001.out _ | refine IsS55.far ?_ NB9006_9013.out _) | exact HI9006.out)) (Kd.R_ext HO_9014001.out) (by decide)) hk (fun _ h => h.2)) (fun _ h => h.1))
       replace HO_9014002 := Aside0.mk (Kd.N_mono (Kd.N_told (Kd.N_oldK (Kd.N_mono (ok := fun k_ => (((w.heap.size ≤ k_)) ∧ (some k_ ≠ (.slice (some ad9047) t9039.length co52 : Value).ownBlock ∧ (some k_ ≠ (.slice Ao13 t9007.length co13 : Value).ownBlock ∧ (some k_ ≠ (u9014001 : Value).ownBlock ∧ (k_ ≠ gb9001 ∧ (k_ ≠ gb9013 ∧ k_ ≠ g9006))))))) (Kd.N_ext HO_9014002.out) (fun k_ hk_ => (⟨hk_, hk_.2.2.2.2.2.2⟩ : _ ∧ k_ ≠ g9006))) hk) (Kd.R_base ho0)) (fun _ h_ => h_.1))
       replace BK9001 := Aside0.mk (KeepBut.blk hk (g' := gb9001) (o := .cells #[.slice none 0 0, .slice none 0 0, .slice none 0 0, .bool false] 26 (0, 0)) (blk_ext BK9001.out) NB9001_9006.out (by simp))
       replace BK9013 := Aside0.mk (KeepBut.blk hk (g' := gb9013) (o := .cells #[.slice Ao13 t9007.length co13, u9014001, u9014002, .bool (t9011 == 1)] 26 (0, 0)) (blk_ext BK9013.out) NB9013_9006.out (by simp))
       have HO9045 := Aside0.mk (Kd.R_lower (Kd.R_new' (Kd.R_newM (M := fun k_ => (w.heap.size ≤ k_)) ho0 (below_size (by repeat (first | (with_reducible first | exact HB.out | apply bA | apply bN | apply b1 | refine bS ?_ (IsS55.ge HI9006.out) | refine bS ?_ GE9001.out | refine bS ?_ GE9013.out) | exact HB.out))) (fun k_ h_ => h_)) (Kd.R_lt (Kd.R_ext HO_9014000.out))) (below_size (by repeat (first | (with_reducible first | exact HB.out | apply bA | apply bN | apply b1 | refine bS ?_ (IsS55.ge HI9006.out) | refine bS ?_ GE9001.out | refine bS ?_ GE9013.out) | exact HB.out))))
       replace HB := Aside0.mk (hb)
       replace HI9006 := Aside0.mk (hi)
       clear HO_9014000
       have HO_9014000 := n1_
       clear n1_
       (try clear hb)
       (try clear hb2)
       (try clear hk)
       (try clear hi)
       (try clear ho0)
       obtain ⟨Ao55, co55, eo55⟩ := Kd.R_slice HO9045.out
       (first | subst eo55 | (injection eo55 with f1_ f2_ f3_; have f4_ := f1_.symm; have f5_ := f3_.symm; clear f1_ f2_ f3_; subst f4_; subst f5_))
       refine hK.out _ _ ⟨bc BK9013 0, bc BK9013 1, bc BK9013 2, bc BK9013 3, HS4_⟩ (fun hHeld => ?_)
       clear hK K
       refine nrmE (some 72) ?_
       refine purE 8 (some 77) HT_ ?_
       refine oneE 9 (some 78) HT_ (fun K hK => ?_)
       refine value_ (w1 := ?_) (v := ?_) (by rfl) rfl ?_ ?_
       rotate_left 2
       ·
        go_simp
        constructor
        ·
         rfl
        ·
         rfl
       refine hK.out _ _ ⟨(blk_cell (blk_alloc BK9013.out _) 0).trans rfl, (blk_cell (blk_alloc BK9013.out _) 1).trans rfl, (blk_cell (blk_alloc BK9013.out _) 2).trans rfl, (blk_cell (blk_alloc BK9013.out _) 3).trans rfl, (World.cell?_alloc_lt _ _ _ (World.block_lt_of_cell? _ _ (hHeld.2.2.2.2))).trans (hHeld.2.2.2.2)⟩ (fun hHeld => ?_)
       clear hK K
       refine nrmE (some 78) ?_
       refine last_ (i := 10) (N := some 79) #[true, true, true, true, true, true, true, true, true, true, true, false, false] rfl rfl (one_of HT_.out (by kernel_rfl)) (by decide) (fun K hK => ?_)
       refine Kd.N_append_step k38 (w0 := w) w.heap.size (by rfl) (.tmp 70) (.tmp 78) 24 38 (.agg #[(.slice none 0 0), (.int .i64 0)]) 32 rfl Tryd.underlying24 info38 rfl (by decide) (by omega) u9014002 x9014002_2 (⟨t9043, rd t9039 x10_2⟩ : S38) [.slice Ao55 t9043.length co55, .int .i64 (rd t9039 x10_2)] (fun k_ => (w.heap.size ≤ k_) ∧ some k_ ≠ (.slice (some ad9047) t9039.length co52 : Value).ownBlock ∧ some k_ ≠ (.slice Ao13 t9007.length co13 : Value).ownBlock ∧ some k_ ≠ (u9014001 : Value).ownBlock ∧ k_ ≠ gb9001 ∧ k_ ≠ gb9013 ∧ k_ ≠ g9006) (fun k_ => ((fun k_ => (w.heap.size ≤ k_) ∧ some k_ ≠ (.slice (some ad9047) t9039.length co52 : Value).ownBlock ∧ some k_ ≠ (.slice Ao13 t9007.length co13 : Value).ownBlock ∧ some k_ ≠ (u9014001 : Value).ownBlock ∧ k_ ≠ gb9001 ∧ k_ ≠ gb9013 ∧ k_ ≠ g9006)) k_ ∧ some k_ ≠ (u9014002 : Value).ownBlock) rfl rfl ?aP (fun _ hk => hk) ?aF ?aO ?aB ?aS ?aL ?_
       (case aP => exact (k38_mkF _ _ (⟨t9043, rd t9039 x10_2⟩ : S38) (Kd.R_reads' (Kd.R_mono (ok' := (fun k_ => ((fun k_ => (w.heap.size ≤ k_) ∧ some k_ ≠ (.slice (some ad9047) t9039.length co52 : Value).ownBlock ∧ some k_ ≠ (.slice Ao13 t9007.length co13 : Value).ownBlock ∧ some k_ ≠ (u9014001 : Value).ownBlock ∧ k_ ≠ gb9001 ∧ k_ ≠ gb9013 ∧ k_ ≠ g9006)) k_ ∧ some k_ ≠ (u9014002 : Value).ownBlock)) (IsS55.apart HI9006.out (Kd.R_types (Kd.R_types (Kd.R_apart' (Kd.R_apart' (Kd.R_apart' (HO9045.out) (Kd.R_typed HO_9.out) (by decide)) (Kd.R_typed HO_9014001.out) (by decide)) (Kd.N_typed HO_9014002.out) (by decide)) BK9001.out (by decide)) BK9013.out (by decide)) (by decide)) (fun k_ hk => ⟨⟨hk.1.1.1.1.1.1.1.1, ⟨hk.1.1.1.1.1.2, ⟨hk.1.1.1.1.1.1.2, ⟨hk.1.1.1.1.2, ⟨hk.1.1.2, ⟨hk.1.2, hk.2⟩⟩⟩⟩⟩⟩, hk.1.1.1.2⟩))).2.1 (Kd.R_F (Kd.R_mono (ok' := (fun k_ => ((fun k_ => (w.heap.size ≤ k_) ∧ some k_ ≠ (.slice (some ad9047) t9039.length co52 : Value).ownBlock ∧ some k_ ≠ (.slice Ao13 t9007.length co13 : Value).ownBlock ∧ some k_ ≠ (u9014001 : Value).ownBlock ∧ k_ ≠ gb9001 ∧ k_ ≠ gb9013 ∧ k_ ≠ g9006)) k_ ∧ some k_ ≠ (u9014002 : Value).ownBlock)) (IsS55.apart HI9006.out (Kd.R_types (Kd.R_types (Kd.R_apart' (Kd.R_apart' (Kd.R_apart' (HO9045.out) (Kd.R_typed HO_9.out) (by decide)) (Kd.R_typed HO_9014001.out) (by decide)) (Kd.N_typed HO_9014002.out) (by decide)) BK9001.out (by decide)) BK9013.out (by decide)) (by decide)) (fun k_ hk => ⟨⟨hk.1.1.1.1.1.1.1.1, ⟨hk.1.1.1.1.1.2, ⟨hk.1.1.1.1.1.1.2, ⟨hk.1.1.1.1.2, ⟨hk.1.1.2, ⟨hk.1.2, hk.2⟩⟩⟩⟩⟩⟩, hk.1.1.1.2⟩)))))
       (case aB => exact (by repeat (first | (with_reducible first | exact HB.out | apply bA | apply bN | apply b1 | refine bS ?_ (IsS55.ge HI9006.out) | refine bS ?_ GE9001.out | refine bS ?_ GE9013.out) | exact HB.out)))
       (case aF => exact (fun k_ hk => ⟨(Nat.le_trans (below_size (by repeat (first | (with_reducible first | exact HB.out | apply bA | apply bN | apply b1 | refine bS ?_ (IsS55.ge HI9006.out) | refine bS ?_ GE9001.out | refine bS ?_ GE9013.out) | exact HB.out))) hk), Kd.fresh' (Kd.R_lt (Kd.R_ext HO_9.out)) k_ hk, Kd.fresh' (Kd.R_lt (Kd.R_ext HO_9014000.out)) k_ hk, Kd.fresh' (Kd.R_lt (Kd.R_ext HO_9014001.out)) k_ hk, Kd.freshB (g := gb9001) (o := .cells #[.slice none 0 0, .slice none 0 0, .slice none 0 0, .bool false] 26 (0, 0)) (blk_ext BK9001.out) k_ hk, Kd.freshB (g := gb9013) (o := .cells #[.slice Ao13 t9007.length co13, u9014001, u9014002, .bool (t9011 == 1)] 26 (0, 0)) (blk_ext BK9013.out) k_ hk, IsS55.fresh (by repeat (first | (with_reducible first | exact HI9006.out | apply IsS55.alloc | apply IsS55.drewN | apply IsS55.drew | apply IsS55.set_1 | refine IsS55.far ?_ NB9006_9001.out _ | refine IsS55.far ?_ NB9006_9013.out _) | exact HI9006.out)) k_ hk⟩))
       (case aO => exact (Kd.N_ext (Kd.N_mono HO_9014002.out (fun _ hk => ⟨hk.1.1, ⟨hk.1.2.1, ⟨hk.1.2.2.1, ⟨hk.1.2.2.2.1, ⟨hk.1.2.2.2.2.1, ⟨hk.1.2.2.2.2.2.1, hk.1.2.2.2.2.2.2⟩⟩⟩⟩⟩⟩))))
       (case aS => exact (below_size (by repeat (first | (with_reducible first | exact HB.out | apply bA | apply bN | apply b1 | refine bS ?_ (IsS55.ge HI9006.out) | refine bS ?_ GE9001.out | refine bS ?_ GE9013.out) | exact HB.out))))
       (case aL => have := LMc51.out; omega)
       intro v9049 w56 ho hb hg hat
       rw [← Ny9048.out] at ho
       replace HO_9 := Aside0.mk (Kd.R_over' (Kd.R_ext HO_9.out) (Kd.N_typed (Kd.N_ext HO_9014002.out)) (by decide) hg)
       replace HO_9014000 := Aside0.mk (Kd.R_over' (Kd.R_ext HO_9014000.out) (Kd.N_typed (Kd.N_ext HO_9014002.out)) (by decide) hg)
       replace HO_9014001 := Aside0.mk (Kd.R_over' (Kd.R_ext HO_9014001.out) (Kd.N_typed (Kd.N_ext HO_9014002.out)) (by decide) hg)
       replace BK9001 := Aside0.mk (blk_grown (g := gb9001) (o := .cells #[.slice none 0 0, .slice none 0 0, .slice none 0 0, .bool false] 26 (0, 0)) (blk_ext BK9001.out) hg (Kd.N_ne HO_9014002.out BK9001.out (by decide)))
       replace BK9013 := Aside0.mk (blk_grown (g := gb9013) (o := .cells #[.slice Ao13 t9007.length co13, u9014001, u9014002, .bool (t9011 == 1)] 26 (0, 0)) (blk_ext BK9013.out) hg (Kd.N_ne HO_9014002.out BK9013.out (by decide)))
       replace HI9006 := Aside0.mk (IsS55.grown (by repeat (first | (with_reducible first | exact HI9006.out | apply IsS55.alloc | apply IsS55.drewN | apply IsS55.drew | apply IsS55.set_1 | refine IsS55.far ?_ NB9006_9001.out _ | refine IsS55.far ?_ NB9006_9013.out _) | exact HI9006.out)) hg (IsS55.own_neN HI9006.out HO_9014002.out (by decide)))
       replace HB := Aside0.mk (hb)
       have HO9050 := Aside0.mk (ho)
       clear HO_9014002
       clear HO9045
       clear ho hb hg hat
       obtain ⟨Ao57, co57, eo57⟩ := Kd.N_slice HO9050.out
       (first | subst eo57 | (injection eo57 with f1_ f2_ f3_; have f4_ := f1_.symm; have f5_ := f3_.symm; clear f1_ f2_ f3_; subst f4_; subst f5_))
       refine hK.out _ _ ?_
       clear hK K
       refine nrmE (some 79) ?_
       refine purE 11 (some 80) HT_ ?_
       refine last_ (i := 12) (N := none) #[true, true, true, true, true, true, true, true, true, true, true, true, true] rfl rfl (one_of HT_.out (by kernel_rfl)) (by decide) (fun K hK => ?_)
       have hs58 : w56.cell? ⟨gb9013, 2, none⟩ = some (u9014002) := (blk_cell BK9013.out 2).trans rfl
       have hfs58 := blk_frozen BK9013.out 2
       have hns58_0 := NB9001_9013.out
       have hms58_0 := NB9013_9001.out
       refine skip_ (w1 := ?_) (by rfl) rfl ?_ ?_
       rotate_left
       ·
        go_simp
        rfl
       refine hK.out _ _ ?_
       clear hK K
       refine done_ (done_of HT_.out (by kernel_rfl)) ?_
       try go_wp2
       go_roundg k2
       case measure => have := HJ6.out; have := HK2.out; omega
       case rel => exact ⟨(wrap64 (x10_2 + 1)), (t9046), (y9048), (.slice Ao57 y9048.length co57), rls, H', ⟨by have := HJ6.out; have := HK2.out; omega⟩, ⟨Kd.R_ext (Kd.R_mono (Kd.R_far (p := ⟨gb9013, 2, none⟩) (Kd.R_types HO_9.out BK9013.out (by decide)) (fun _ hk => hk.2) (.slice Ao57 y9048.length co57)) (fun _ hk => hk.1))⟩, ⟨Kd.R_ext (Kd.R_mono (Kd.R_far (p := ⟨gb9013, 2, none⟩) (Kd.R_types HO_9014000.out BK9013.out (by decide)) (fun _ hk => hk.2) (.slice Ao57 y9048.length co57)) (fun _ hk => hk.1.1))⟩, ⟨Kd.R_ext (Kd.R_mono (Kd.R_far (p := ⟨gb9013, 2, none⟩) (Kd.R_types HO_9014001.out BK9013.out (by decide)) (fun _ hk => hk.2) (.slice Ao57 y9048.length co57)) (fun _ hk => hk.1))⟩, ⟨Kd.N_ext (Kd.N_mono (Kd.N_far (p := ⟨gb9013, 2, none⟩) (Kd.N_mono HO9050.out (fun k_ hk => (⟨hk, hk.2.2.2.2.2.1⟩ : _ ∧ k_ ≠ gb9013))) (fun _ hk => hk.2) (.slice Ao57 y9048.length co57)) (fun _ hk => ⟨hk.1.1, ⟨hk.1.2.1, ⟨hk.1.2.2.1, ⟨hk.1.2.2.2.1, ⟨hk.1.2.2.2.2.1, ⟨hk.1.2.2.2.2.2.1, hk.1.2.2.2.2.2.2⟩⟩⟩⟩⟩⟩))⟩, ⟨blk_extC BK9001.out⟩, ⟨by (with_reducible repeat (first | refine blk_drewN ?_ _ | refine blk_drew ?_ | refine blk_alloc ?_ _)); refine blk_put (cs := #[.slice Ao13 t9007.length co13, u9014001, u9014002, .bool (t9011 == 1)]) ?_ 2 _ rfl; exact blk_ext BK9013.out⟩, ⟨by repeat (first | (with_reducible first | exact HI9006.out | apply IsS55.alloc | apply IsS55.drewN | apply IsS55.drew | apply IsS55.set_1 | refine IsS55.far ?_ NB9006_9001.out _ | refine IsS55.far ?_ NB9006_9013.out _) | exact HI9006.out)⟩, ⟨by repeat (first | (with_reducible first | exact HB.out | apply bA | apply bN | apply b1 | refine bS ?_ (IsS55.ge HI9006.out) | refine bS ?_ GE9001.out | refine bS ?_ GE9013.out) | exact HB.out)⟩⟩
      ·
       rw [if_neg c48] at H
       have c48b0 : decide (x10_2 < (t9039.length : Int)) = false := decide_eq_false c48
       clear c48
       simp only [Option.some.injEq, Prod.mk.injEq] at H
       obtain ⟨rfl, rfl, rfl, rfl⟩ := H
       obtain ⟨Ao59, co59, eo59⟩ := Kd.R_slice HO_9.out
       subst eo59
       have hnb60 := NB9013_9001.out
       have hnc60 := NB9001_9013.out
       have hnb61 := NB9013_9006.out
       have hnc61 := NB9006_9013.out
       obtain ⟨hcz62_0, hcz62_1, hcz62_2, hcz62_3, hfz62_0, hfz62_1, hfz62_2, hfz62_3⟩ := bk4 BK9013.out
       have hnb63 := NB9001_9006.out
       have hnc63 := NB9006_9001.out
       obtain ⟨hcz64_0, hcz64_1, hcz64_2, hcz64_3, hfz64_0, hfz64_1, hfz64_2, hfz64_3⟩ := bk4 BK9001.out
       obtain ⟨Ao65, co65, eo65⟩ := Kd.R_slice HO_9014001.out
       subst eo65
       obtain ⟨Ao66, co66, eo66⟩ := Kd.N_slice HO_9014002.out
       subst eo66
       go_wp2
       refine bodyPost_ret (results_cell_row rfl _ _ gb9001 26 #[.slice Ao13 t9007.length co13, .slice Ao65 x9014001_6.length co65, .slice Ao66 x9014002_2.length co66, .bool (t9011 == 1)] (0, 0) _ rfl (by (with_reducible repeat (first | refine blk_drewN ?_ _ | refine blk_drew ?_ | refine blk_alloc ?_ _)); refine blk_put (cs := #[.slice Ao13 t9007.length co13, .slice Ao65 x9014001_6.length co65, .slice Ao66 x9014002_2.length co66, .bool false]) ?_ 3 _ rfl; (with_reducible repeat (first | refine blk_drewN ?_ _ | refine blk_drew ?_ | refine blk_alloc ?_ _)); refine blk_put (cs := #[.slice Ao13 t9007.length co13, .slice Ao65 x9014001_6.length co65, .slice none 0 0, .bool false]) ?_ 2 _ rfl; (with_reducible repeat (first | refine blk_drewN ?_ _ | refine blk_drew ?_ | refine blk_alloc ?_ _)); refine blk_put (cs := #[.slice Ao13 t9007.length co13, .slice none 0 0, .slice none 0 0, .bool false]) ?_ 1 _ rfl; (with_reducible repeat (first | refine blk_drewN ?_ _ | refine blk_drew ?_ | refine blk_alloc ?_ _)); refine blk_put (cs := #[.slice none 0 0, .slice none 0 0, .slice none 0 0, .bool false]) ?_ 0 _ rfl; exact blk_ext BK9001.out) Tryd.underlying26 rfl (by kernel_rfl)) rfl ?_
       exact ⟨_, _, _, by first | rfl | (simp [errW_none, errW_some] <;> rfl) | (simp [*, errW_none, errW_some] <;> rfl), Kd.R_ext (Kd.R_mono (Kd.R_far (p := ⟨gb9001, 3, none⟩) (Kd.R_far (p := ⟨gb9001, 2, none⟩) (Kd.R_far (p := ⟨gb9001, 1, none⟩) (Kd.R_far (p := ⟨gb9001, 0, none⟩) (Kd.R_types HO_9014000.out BK9001.out (by decide)) (fun _ hk => hk.2) (.slice Ao13 t9007.length co13)) (fun _ hk => hk.2) (.slice Ao65 x9014001_6.length co65)) (fun _ hk => hk.2) (.slice Ao66 x9014002_2.length co66)) (fun _ hk => hk.2) (.bool (t9011 == 1))) (fun _ hk => hk.1)), Kd.R_ext (Kd.R_mono (Kd.R_far (p := ⟨gb9001, 3, none⟩) (Kd.R_far (p := ⟨gb9001, 2, none⟩) (Kd.R_far (p := ⟨gb9001, 1, none⟩) (Kd.R_far (p := ⟨gb9001, 0, none⟩) (Kd.R_types HO_9014001.out BK9001.out (by decide)) (fun _ hk => hk.2) (.slice Ao13 t9007.length co13)) (fun _ hk => hk.2) (.slice Ao65 x9014001_6.length co65)) (fun _ hk => hk.2) (.slice Ao66 x9014002_2.length co66)) (fun _ hk => hk.2) (.bool (t9011 == 1))) (fun _ hk => hk.1)), Kd.N_ext (Kd.N_mono (Kd.N_far (p := ⟨gb9001, 3, none⟩) (Kd.N_far (p := ⟨gb9001, 2, none⟩) (Kd.N_far (p := ⟨gb9001, 1, none⟩) (Kd.N_far (p := ⟨gb9001, 0, none⟩) (Kd.N_mono HO_9014002.out (fun k_ hk => (⟨hk, hk.2.2.2.2.1⟩ : _ ∧ k_ ≠ gb9001))) (fun _ hk => hk.2) (.slice Ao13 t9007.length co13)) (fun _ hk => hk.2) (.slice Ao65 x9014001_6.length co65)) (fun _ hk => hk.2) (.slice Ao66 x9014002_2.length co66)) (fun _ hk => hk.2) (.bool (t9011 == 1))) (fun _ hk => ⟨hk.1.1, ⟨hk.1.2.2.1, hk.1.2.2.2.1⟩⟩)), by repeat (first | (with_reducible first | exact HB.out | apply bA | apply bN | apply b1 | refine bS ?_ (IsS55.ge HI9006.out) | refine bS ?_ GE9001.out | refine bS ?_ GE9013.out) | exact HB.out)⟩
   ·
    rw [if_neg c42] at H
    have c42b0 : (t9035 == 1) = false := beq_eq_false_iff_ne.mpr c42
    have c42b1 : (t9035 != 1) = true := bne_iff_ne.mpr c42
    simp only [Option.some.injEq, Prod.mk.injEq] at H
    obtain ⟨rfl, rfl, rfl, rfl⟩ := H
    go_wp2_with (first | ((with_reducible refine gate_callee (f := 25) rfl ?_); refine goesL_ (some 56) rfl rfl Tryd.func25 (by kernel_rfl) rfl #[.pointer (some ⟨g9006, 0, none⟩), .int .i64 3] rfl goA ?_; (with_reducible refine (customsmade_Source_Next.calls g9006 t9004 x9007001_6 3 t9035 t9036 w _ ?side1 ?side2 A41.out).mono ?_); (case side1 => repeat (first | (with_reducible first | exact HI9006.out | apply IsS55.alloc | apply IsS55.drewN | apply IsS55.drew | apply IsS55.set_1 | refine IsS55.far ?_ NB9006_9001.out _ | refine IsS55.far ?_ NB9006_9013.out _) | exact HI9006.out)); (case side2 => repeat (first | (with_reducible first | exact HB.out | apply bA | apply bN | apply b1 | refine bS ?_ (IsS55.ge HI9006.out) | refine bS ?_ GE9001.out | refine bS ?_ GE9013.out) | exact HB.out)); rintro e w67 ⟨rfl, hi, hb, hk⟩; refine ⟨_, rfl, ?_⟩; replace HO_9014000 := Aside0.mk (Kd.R_mono (Kd.R_keep (IsS55.apart (show IsS55 w _ g9006 t9004 x9007001_6 from by repeat (first | (with_reducible first | exact HI9006.out | apply IsS55.alloc | apply IsS55.drewN | apply IsS55.drew | apply IsS55.set_1 | refine IsS55.far ?_ NB9006_9001.out _ | refine IsS55.far ?_ NB9006_9013.out _) | exact HI9006.out)) (Kd.R_ext HO_9014000.out) (by decide)) hk (fun _ h => h.2)) (fun _ h => h.1)); replace HO_9014001 := Aside0.mk (Kd.R_mono (Kd.R_keep (IsS55.apart (show IsS55 w _ g9006 t9004 x9007001_6 from by repeat (first | (with_reducible first | exact HI9006.out | apply IsS55.alloc | apply IsS55.drewN | apply IsS55.drew | apply IsS55.set_1 | refine IsS55.far ?_ NB9006_9001.out _ | refine IsS55.far ?_ NB9006_9013.out _) | exact HI9006.out)) (Kd.R_ext HO_9014001.out) (by decide)) hk (fun _ h => h.2)) (fun _ h => h.1)); replace BK9001 := Aside0.mk (KeepBut.blk hk (g' := gb9001) (o := .cells #[.slice none 0 0, .slice none 0 0, .slice none 0 0, .bool false] 26 (0, 0)) (blk_ext BK9001.out) NB9001_9006.out (by simp)); replace BK9013 := Aside0.mk (KeepBut.blk hk (g' := gb9013) (o := .cells #[.slice Ao13 t9007.length co13, u9014001, .slice none 0 0, .bool (t9011 == 1)] 26 (0, 0)) (blk_ext BK9013.out) NB9013_9006.out (by simp)); replace HB := Aside0.mk (hb); replace HI9006 := Aside0.mk (hi); (try clear hb); (try clear hb2); (try clear hk); (try clear hi); have hnb68 := NB9013_9001.out; have hnc68 := NB9001_9013.out; have hnb69 := NB9013_9006.out; have hnc69 := NB9006_9013.out; obtain ⟨hcz70_0, hcz70_1, hcz70_2, hcz70_3, hfz70_0, hfz70_1, hfz70_2, hfz70_3⟩ := bk4 BK9013.out; have hnb71 := NB9001_9006.out; have hnc71 := NB9006_9001.out; obtain ⟨hcz72_0, hcz72_1, hcz72_2, hcz72_3, hfz72_0, hfz72_1, hfz72_2, hfz72_3⟩ := bk4 BK9001.out; obtain ⟨Ao73, co73, eo73⟩ := Kd.R_slice HO_9014001.out; subst eo73))
    refine bodyPost_ret (results_cell_row rfl _ _ gb9001 26 #[.slice Ao13 t9007.length co13, .slice Ao73 x9014001_6.length co73, .slice none 0 0, .bool (t9011 == 1)] (0, 0) _ rfl (by (with_reducible repeat (first | refine blk_drewN ?_ _ | refine blk_drew ?_ | refine blk_alloc ?_ _)); refine blk_put (cs := #[.slice Ao13 t9007.length co13, .slice Ao73 x9014001_6.length co73, .slice none 0 0, .bool false]) ?_ 3 _ rfl; (with_reducible repeat (first | refine blk_drewN ?_ _ | refine blk_drew ?_ | refine blk_alloc ?_ _)); refine blk_put (cs := #[.slice Ao13 t9007.length co13, .slice Ao73 x9014001_6.length co73, .slice none 0 0, .bool false]) ?_ 2 _ rfl; (with_reducible repeat (first | refine blk_drewN ?_ _ | refine blk_drew ?_ | refine blk_alloc ?_ _)); refine blk_put (cs := #[.slice Ao13 t9007.length co13, .slice none 0 0, .slice none 0 0, .bool false]) ?_ 1 _ rfl; (with_reducible repeat (first | refine blk_drewN ?_ _ | refine blk_drew ?_ | refine blk_alloc ?_ _)); refine blk_put (cs := #[.slice none 0 0, .slice none 0 0, .slice none 0 0, .bool false]) ?_ 0 _ rfl; exact blk_ext BK9001.out) Tryd.underlying26 rfl (by kernel_rfl)) rfl ?_
    exact ⟨_, _, _, by first | rfl | (simp [errW_none, errW_some] <;> rfl) | (simp [*, errW_none, errW_some] <;> rfl), Kd.R_ext (Kd.R_mono (Kd.R_far (p := ⟨gb9001, 3, none⟩) (Kd.R_far (p := ⟨gb9001, 2, none⟩) (Kd.R_far (p := ⟨gb9001, 1, none⟩) (Kd.R_far (p := ⟨gb9001, 0, none⟩) (Kd.R_types HO_9014000.out BK9001.out (by decide)) (fun _ hk => hk.2) (.slice Ao13 t9007.length co13)) (fun _ hk => hk.2) (.slice Ao73 x9014001_6.length co73)) (fun _ hk => hk.2) (.slice none 0 0)) (fun _ hk => hk.2) (.bool (t9011 == 1))) (fun _ hk => hk.1)), Kd.R_ext (Kd.R_mono (Kd.R_far (p := ⟨gb9001, 3, none⟩) (Kd.R_far (p := ⟨gb9001, 2, none⟩) (Kd.R_far (p := ⟨gb9001, 1, none⟩) (Kd.R_far (p := ⟨gb9001, 0, none⟩) (Kd.R_types HO_9014001.out BK9001.out (by decide)) (fun _ hk => hk.2) (.slice Ao13 t9007.length co13)) (fun _ hk => hk.2) (.slice Ao73 x9014001_6.length co73)) (fun _ hk => hk.2) (.slice none 0 0)) (fun _ hk => hk.2) (.bool (t9011 == 1))) (fun _ hk => hk.1)), by first | exact Kd.S_nil _ _ _ _ _ | exact Kd.N_nil _ _ _ _ _ | exact Kd.V_nil _ _ _ _ _ | exact Kd.Q_nil _ _ _ _ _ | exact Kd.R_nil _ _ _ _ _, by repeat (first | (with_reducible first | exact HB.out | apply bA | apply bN | apply b1 | refine bS ?_ (IsS55.ge HI9006.out) | refine bS ?_ GE9001.out | refine bS ?_ GE9013.out) | exact HB.out)⟩

end Go.Proofs.YtoolggpfgadjlaaDoor.Z
