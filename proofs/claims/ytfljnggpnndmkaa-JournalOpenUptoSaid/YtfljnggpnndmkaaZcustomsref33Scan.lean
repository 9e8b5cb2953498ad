/- Written by a program of this session: each Go function as a plain Lean function, and that the machine's call does what it says. Conditions: none but those each theorem states. -/
import Derived.Test.YtfljnggpnndmkaaZ0
import Derived.Test.YtfljnggpnndmkaaZcustomsref33SameBytes
import Derived.Test.YtfljnggpnndmkaaZcustomsref33Encode
namespace Go.Proofs.Ytfljnggpnndmkaa.Z
open Go.RowKit Go.Proofs.YtfljnggpnndmkaaW.PrintWords Go.Proofs.YtfljnggpnndmkaaW.PrintLast Go.Proofs.YtfljnggpnndmkaaW.PrintMore
attribute [local go_sem] max2_int min2_int max_two min_two max_three min_three max_four min_four   -- for this text's walks alone
set_option linter.unusedVariables false
set_option linter.unusedSimpArgs false

/-! ### customsref33_Scan: function 54 -/
mutual
def customsref33_Scan.l0 : Nat → List Int → List (S57) → Int → Option ((List (S57)) × Int)
  | 0, _, _, _ => none
  | k + 1, x0, x4, x5 => if (wrap64 (x5 + 9)) ≤ (x0.length : Int) then (if 0 ≤ x5 then (if x5 < (x0.length : Int) then (if 0 ≤ (wrap64 (x5 + 1)) then (if (wrap64 (x5 + 1)) < (x0.length : Int) then (if (wrap64 ((wrap64 ((wrap64 (rd x0 x5)) * 256)) + (wrap64 (rd x0 (wrap64 (x5 + 1)))))) > 60000 then (customsref33_Scan.j1 k x0 x4 x5 (wrap64 ((wrap64 ((wrap64 (rd x0 x5)) * 256)) + (wrap64 (rd x0 (wrap64 (x5 + 1)))))) true) else (customsref33_Scan.j1 k x0 x4 x5 (wrap64 ((wrap64 ((wrap64 (rd x0 x5)) * 256)) + (wrap64 (rd x0 (wrap64 (x5 + 1)))))) (decide ((wrap64 ((wrap64 (x5 + 9)) + (wrap64 ((wrap64 ((wrap64 (rd x0 x5)) * 256)) + (wrap64 (rd x0 (wrap64 (x5 + 1)))))))) > (x0.length : Int))))) else (none)) else (none)) else (none)) else (none)) else (some (x4, x5))
def customsref33_Scan.j1 : Nat → List Int → List (S57) → Int → Int → Bool → Option ((List (S57)) × Int)
  | 0, _, _, _, _, _ => none
  | k + 1, x0, x4, x5, x6, x38 => if x38 = true then (some (x4, x5)) else (if 0 ≤ (wrap64 (x5 + 4)) then (if (wrap64 (x5 + 4)) < (x0.length : Int) then ((some (([] : List Int) : List Int)).bind fun y54004 => (if 0 ≤ (wrap64 (x5 + 5)) then (if (wrap64 (x5 + 5)) ≤ (wrap64 ((wrap64 (x5 + 5)) + x6)) then (if (wrap64 ((wrap64 (x5 + 5)) + x6)) ≤ (x0.length : Int) then (if y54004.length + ((x0.take ((wrap64 ((wrap64 (x5 + 5)) + x6)) : Int).toNat).drop ((wrap64 (x5 + 5)) : Int).toNat).length < 140737488355328 then ((some (y54004 ++ ((x0.take ((wrap64 ((wrap64 (x5 + 5)) + x6)) : Int).toNat).drop ((wrap64 (x5 + 5)) : Int).toNat) : List Int)).bind fun y54008 => ((customsref33_Encode.f k (wrap64 (rd x0 (wrap64 (x5 + 4)))) y54008).bind fun bt54012 => (if bt54012.2 = 0 then (if 0 ≤ x5 then (if x5 ≤ (wrap64 ((wrap64 (x5 + 9)) + x6)) then (if (wrap64 ((wrap64 (x5 + 9)) + x6)) ≤ (x0.length : Int) then ((customsref33_SameBytes.f bt54012.1 ((x0.take ((wrap64 ((wrap64 (x5 + 9)) + x6)) : Int).toNat).drop (x5 : Int).toNat)).bind fun t54017 => (if t54017 = true then (if x4.length < 4398046511104 then (customsref33_Scan.l0 k x0 (x4 ++ [(⟨wrap64 (rd x0 (wrap64 (x5 + 4))), y54008⟩ : S57)]) (wrap64 ((wrap64 (x5 + 9)) + x6))) else (none)) else (some (x4, x5)))) else (none)) else (none)) else (none)) else (some (x4, x5))))) else (none)) else (none)) else (none)) else (none))) else (none)) else (none))
end
def customsref33_Scan.f (k : Nat) (l0 : List Int) : Option ((List (S57)) × Int) := customsref33_Scan.l0 k l0 ([] : List (S57)) 0
theorem customsref33_Scan.mono_l : ∀ k, (∀ y0 y1 y2, LeO (customsref33_Scan.l0 k y0 y1 y2) (customsref33_Scan.l0 (k + 1) y0 y1 y2)) ∧ (∀ y0 y1 y2 y3 y4, LeO (customsref33_Scan.j1 k y0 y1 y2 y3 y4) (customsref33_Scan.j1 (k + 1) y0 y1 y2 y3 y4))
  | 0 => ⟨fun _ _ _ r h => by simp [customsref33_Scan.l0] at h, fun _ _ _ _ _ r h => by simp [customsref33_Scan.j1] at h⟩
  | k + 1 => by
    obtain ⟨ih0, ih1⟩ := customsref33_Scan.mono_l k
    refine ⟨?_, ?_⟩
    · intro y0 y1 y2
      unfold customsref33_Scan.l0
      repeat' first
      | (with_reducible exact ih0 _ _ _)
      | (with_reducible exact ih1 _ _ _ _ _)
      | (with_reducible exact customsref33_Encode.mono _ _ _)
      | (with_reducible exact LeO.refl _)
      | (with_reducible exact LeO.none _)
      | (with_reducible refine LeO.ite ?_ ?_)
      | (with_reducible refine LeO.bind ?_ (fun _ => ?_))
      | exact ih0 _ _ _
      | exact ih1 _ _ _ _ _
      | exact customsref33_Encode.mono _ _ _
      | exact LeO.none _
      | refine LeO.ite ?_ ?_
      | refine LeO.bind ?_ (fun _ => ?_)
    · intro y0 y1 y2 y3 y4
      unfold customsref33_Scan.j1
      repeat' first
      | (with_reducible exact ih0 _ _ _)
      | (with_reducible exact ih1 _ _ _ _ _)
      | (with_reducible exact customsref33_Encode.mono _ _ _)
      | (with_reducible exact LeO.refl _)
      | (with_reducible exact LeO.none _)
      | (with_reducible refine LeO.ite ?_ ?_)
      | (with_reducible refine LeO.bind ?_ (fun _ => ?_))
      | exact ih0 _ _ _
      | exact ih1 _ _ _ _ _
      | exact customsref33_Encode.mono _ _ _
      | exact LeO.none _
      | refine LeO.ite ?_ ?_
      | refine LeO.bind ?_ (fun _ => ?_)
theorem customsref33_Scan.mono : ∀ a0 k, LeO (customsref33_Scan.f k a0) (customsref33_Scan.f (k + 1) a0) := by
  intro a0 k
  obtain ⟨ih0, ih1⟩ := customsref33_Scan.mono_l k
  unfold customsref33_Scan.f
  repeat' first
      | (with_reducible exact ih0 _ _ _)
      | (with_reducible exact ih1 _ _ _ _ _)
      | (with_reducible exact customsref33_Encode.mono _ _ _)
      | (with_reducible exact LeO.refl _)
      | (with_reducible exact LeO.none _)
      | (with_reducible refine LeO.ite ?_ ?_)
      | (with_reducible refine LeO.bind ?_ (fun _ => ?_))
      | exact ih0 _ _ _
      | exact ih1 _ _ _ _ _
      | exact customsref33_Encode.mono _ _ _
      | exact LeO.none _
      | refine LeO.ite ?_ ?_
      | refine LeO.bind ?_ (fun _ => ?_)
def customsref33_Scan.T4 : Bool × List (List Nat × List Nat) := (true, [([], []), ([], []), ([0, 1], [0, 1]), ([2], [2]), ([3], [3]), ([4], [4]), ([], []), ([], []), ([7], [7]), ([6, 8], [6, 8]), ([9], [9]), ([10], [10]), ([5, 11], [5, 11]), ([12, 0, 1, 2, 3, 4, 5, 6, 7, 8, 9, 10, 11, 12], [12])])
def customsref33_Scan.B4 : List Nat := [0, 0, 3, 7, 15, 31, 0, 0, 128, 448, 960, 1984, 4095, 8191]
theorem customsref33_Scan.tab4 : rtab .any (opsOf Try.f54 4) = customsref33_Scan.T4 := by kernel_rfl
theorem customsref33_Scan.bits4 : waitsOk customsref33_Scan.T4.2 customsref33_Scan.B4 = true := by kernel_rfl
def customsref33_Scan.T6 : Bool × List (List Nat × List Nat) := (true, [([], []), ([], []), ([1], [1]), ([0, 2], [0, 2]), ([3], [3]), ([4], [4]), ([], []), ([], []), ([], []), ([8], [8]), ([], []), ([10], [10]), ([], []), ([11, 12], [11, 12]), ([7, 9, 13], [7, 9, 13]), ([6, 14], [6, 14]), ([5, 15], [5, 15]), ([], []), ([17, 16, 15, 0, 1, 2, 3, 4, 5, 6, 7, 8, 9, 10, 11, 12, 13, 14, 15, 16, 17], [16, 17])])
def customsref33_Scan.B6 : List Nat := [0, 0, 2, 7, 15, 31, 0, 0, 0, 256, 0, 1024, 0, 7168, 16256, 32704, 65535, 0, 262143]
theorem customsref33_Scan.tab6 : rtab .any (opsOf Try.f54 6) = customsref33_Scan.T6 := by kernel_rfl
theorem customsref33_Scan.bits6 : waitsOk customsref33_Scan.T6.2 customsref33_Scan.B6 = true := by kernel_rfl
set_option maxHeartbeats 8000000 in
set_option maxRecDepth 100000 in
theorem customsref33_Scan.calls (k : Nat) (A0 : Option Addr) (c0 : Nat) (l0 : List Int) (r1 : List (S57)) (r2 : Int) (w : World) (hr0 : Kd.C (Kd.int .u8) w A0 l0.length l0) (hc0 : l0.length ≤ c0) (h : customsref33_Scan.f k l0 = some (r1, r2)) :
    Calls Try.prog 54 #[.slice A0 l0.length c0] w fun e w' => ∃ v0_ : Value, e = .returned (.tuple #[v0_, .int .i64 r2]) ∧ Kd.S k57 57 w' w.heap.size (fun _ => True) v0_ r1 ∧ Below w.heap.size w w' := by
  have hu57 := Try.underlying57
  have HR0 := Aside0.mk hr0
  have HC0 := Aside0.mk hc0
  clear hr0 hc0
  have HB := Aside0.mk (Below.refl w.heap.size w)
  have H : (customsref33_Scan.l0 k l0 ([] : List (S57)) 0) = some (r1, r2) := h
  clear h
  have H' := Aside0.mk H
  clear H
  go_enter Try.func54, Try.ntmps54
  go_wp2
  go_loopg [4, 5] k (fun kq v4 v5 w' => ∃ (x4_1 : List (S57)) (x5_1 : Int), v5 = .int .i64 x5_1 ∧ Aside0 (customsref33_Scan.l0 kq l0 x4_1 x5_1 = some (r1, r2)) ∧ Aside0 (kq ≤ k) ∧ Aside0 (Kd.S k57 57 w' w.heap.size (fun _ => True) v4 x4_1) ∧ Aside0 (Below w.heap.size w w'))
  case atStart => exact ⟨(([] : List (S57))), (0), (by first | rfl | (simp; done) | (simp [*]; done)), H', ⟨Nat.le_refl _⟩, ⟨by first | exact Kd.S_nil _ _ _ _ _ | exact Kd.N_nil _ _ _ _ _ | exact Kd.V_nil _ _ _ _ _ | exact Kd.Q_nil _ _ _ _ _ | exact Kd.R_nil _ _ _ _ _⟩, ⟨below_ext HB.out⟩⟩
  case round =>
    clear H'
    obtain ⟨x4_1, x5_1, rfl, HA, HK1, HO_4, HB⟩ := hrel
    cases gk with
    | zero => exact absurd HA.out (by simp [customsref33_Scan.l0])
    | succ k1 =>
      have H := HA.out
      clear HA
      simp only [customsref33_Scan.l0] at H
      by_cases c2 : (wrap64 (x5_1 + 9)) ≤ (l0.length : Int)
      · rw [if_pos c2] at H
        have c2b0 : decide ((wrap64 (x5_1 + 9)) ≤ (l0.length : Int)) = true := decide_eq_true c2
        clear c2
        replace H := if_some H; obtain ⟨c3, H⟩ := H
        have c3b0 : decide (0 ≤ x5_1) = true := decide_eq_true c3
        clear c3
        replace H := if_some H; obtain ⟨c4, H⟩ := H
        have c4b0 : decide (x5_1 < (l0.length : Int)) = true := decide_eq_true c4
        clear c4
        obtain ⟨ji5, hji5⟩ : ∃ j_ : Int, (wrap64 (x5_1 + 1)) = j_ := ⟨_, rfl⟩
        replace H : (if 0 ≤ (ji5) then (if (ji5) < (l0.length : Int) then (if (wrap64 ((wrap64 ((wrap64 (rd l0 x5_1)) * 256)) + (wrap64 (rd l0 (ji5))))) > 60000 then (customsref33_Scan.j1 k1 l0 x4_1 x5_1 (wrap64 ((wrap64 ((wrap64 (rd l0 x5_1)) * 256)) + (wrap64 (rd l0 (ji5))))) true) else (customsref33_Scan.j1 k1 l0 x4_1 x5_1 (wrap64 ((wrap64 ((wrap64 (rd l0 x5_1)) * 256)) + (wrap64 (rd l0 (ji5))))) (decide ((wrap64 ((wrap64 (x5_1 + 9)) + (wrap64 ((wrap64 ((wrap64 (rd l0 x5_1)) * 256)) + (wrap64 (rd l0 (ji5))))))) > (l0.length : Int))))) else (none)) else (none)) = some (r1, r2) := by first | (rw [hji5] at H; exact H) | (simp only [hji5] at H ⊢; exact H)
        have hji5w : (IntKind.i64.wrap (x5_1 + 1)) = ji5 := (i64_w _).trans hji5
        replace H := if_some H; obtain ⟨c6, H⟩ := H
        have c6b0 : decide (0 ≤ (ji5)) = true := decide_eq_true c6
        clear c6
        replace H := if_some H; obtain ⟨c7, H⟩ := H
        have c7b0 : decide ((ji5) < (l0.length : Int)) = true := decide_eq_true c7
        clear c7
        have HC8 := Aside0.mk H
        clear H
        try go_wp2
        have n0_ := Aside0.mk (Kd.S_drew HO_4.out)
        have n1_ := Aside0.mk (below_drew1 HB.out)
        clear HO_4
        clear HB
        have HO_4 := n0_
        have HB := n1_
        clear n0_ n1_
        have p54001 : 0 ≤ (x5_1 : Int) := of_decide_eq_true (by first | (with_reducible assumption) | assumption)
        have q54001 : x5_1 < (l0.length : Int) := of_decide_eq_true (by first | (with_reducible assumption) | assumption)
        obtain ⟨ad54001, e54001, hx54001_0⟩ := Kd.at_int HR0.out x5_1 p54001 q54001
        have hw54001_0 := hx54001_0
        cases e54001
        replace hx54001_0 := (HB.out.cell (World.block_lt_of_cell? w _ hx54001_0)).trans hx54001_0
        replace p54001 := eq_true p54001
        replace q54001 := eq_true q54001
        have p54002 : 0 ≤ ((ji5) : Int) := of_decide_eq_true (by first | (with_reducible assumption) | assumption)
        have q54002 : (ji5) < (l0.length : Int) := of_decide_eq_true (by first | (with_reducible assumption) | assumption)
        obtain ⟨ad54002, e54002, hx54002_0⟩ := Kd.at_int HR0.out (ji5) p54002 q54002
        have hw54002_0 := hx54002_0
        obtain rfl : ad54001 = ad54002 := (by injection e54002)
        replace hx54002_0 := (HB.out.cell (World.block_lt_of_cell? w _ hx54002_0)).trans hx54002_0
        replace p54002 := eq_true p54002
        replace q54002 := eq_true q54002
        refine start_ (n := 14) (S := fun w' => w'.cell? (ad54001.add (x5_1).toNat) = some (.int .u8 (rd l0 x5_1)) ∧ w'.cell? (ad54001.add ((ji5)).toNat) = some (.int .u8 (rd l0 (ji5)))) (ds := []) #[false, false, false, false, false, false, false, false, false, false, false, false, false, false] (by kernel_rfl) rfl rfl ⟨((HB.out.cell (World.block_lt_of_cell? w _ hw54001_0)).trans hw54001_0), ((HB.out.cell (World.block_lt_of_cell? w _ hw54002_0)).trans hw54002_0)⟩ (fun hHeld => ?_); refine with_tabW customsref33_Scan.tab4 customsref33_Scan.bits4 (fun HT_ HW_ => ?_)
        generalize wr.drew = w9 at HO_4 HB hx54001_0 hx54002_0 hHeld ⊢
        refine pure_ (i := 0) (N := some 15) (v := ?_) (a' := ?_) #[true, false, false, false, false, false, false, false, false, false, false, false, false, false] rfl rfl (any_of HT_.out (by kernel_rfl)) (fun _ _ _ h => h) (Or.inl ⟨by rfl, ?_⟩) ?_ ?_
        rotate_left
        · intro w'
          go_simp
          with_reducible rfl
        rotate_left
        · simp only [Act.put, List.setIfInBounds_toArray, List.set_cons_zero, List.set_cons_succ, i64_w, i32_w]
          rfl
        refine pure_ (i := 1) (N := some 16) (v := ?_) (a' := ?_) #[true, true, false, false, false, false, false, false, false, false, false, false, false, false] rfl rfl (any_of HT_.out (by kernel_rfl)) (fun _ _ _ h => h) (Or.inl ⟨by rfl, ?_⟩) ?_ ?_
        rotate_left
        · intro w'
          go_simp
          with_reducible rfl
        rotate_left
        · simp only [Act.put, List.setIfInBounds_toArray, List.set_cons_zero, List.set_cons_succ, i64_w, i32_w]
          rfl
        refine pure_ (i := 2) (N := some 17) (v := ?_) (a' := ?_) #[true, true, true, false, false, false, false, false, false, false, false, false, false, false] rfl rfl (any_of HT_.out (by kernel_rfl)) (fun _ _ _ h => h) (Or.inl ⟨by rfl, ?_⟩) ?_ ?_
        rotate_left
        · intro w'
          go_simp
          with_reducible rfl
        rotate_left
        · simp only [Act.put, List.setIfInBounds_toArray, List.set_cons_zero, List.set_cons_succ, i64_w, i32_w]
          rfl
        refine pure_ (i := 6) (N := some 21) (v := ?_) (a' := ?_) #[true, true, true, false, false, false, true, false, false, false, false, false, false, false] rfl rfl (any_of HT_.out (by kernel_rfl)) (fun _ _ _ h => h) (Or.inl ⟨by rfl, ?_⟩) ?_ ?_
        rotate_left
        · intro w'
          go_simp
          with_reducible rfl
        rotate_left
        · simp only [Act.put, List.setIfInBounds_toArray, List.set_cons_zero, List.set_cons_succ, i64_w, i32_w]
          rfl
        refine pure_ (i := 7) (N := some 22) (v := ?_) (a' := ?_) #[true, true, true, false, false, false, true, true, false, false, false, false, false, false] rfl rfl (any_of HT_.out (by kernel_rfl)) (fun _ _ _ h => h) (Or.inl ⟨by rfl, ?_⟩) ?_ ?_
        rotate_left
        · intro w'
          go_simp
          with_reducible rfl
        rotate_left
        · simp only [Act.put, List.setIfInBounds_toArray, List.set_cons_zero, List.set_cons_succ, i64_w, i32_w]
          rfl
        refine pure_ (i := 8) (N := some 23) (v := ?_) (a' := ?_) #[true, true, true, false, false, false, true, true, true, false, false, false, false, false] rfl rfl (any_of HT_.out (by kernel_rfl)) (fun _ _ _ h => h) (Or.inl ⟨by rfl, ?_⟩) ?_ ?_
        rotate_left
        · intro w'
          go_simp
          with_reducible rfl
        rotate_left
        · simp only [Act.put, List.setIfInBounds_toArray, List.set_cons_zero, List.set_cons_succ, i64_w, i32_w]
          rfl
        refine pure_ (i := 9) (N := some 24) (v := ?_) (a' := ?_) #[true, true, true, false, false, false, true, true, true, true, false, false, false, false] rfl rfl (any_of HT_.out (by kernel_rfl)) (fun _ _ _ h => h) (Or.inl ⟨by rfl, ?_⟩) ?_ ?_
        rotate_left
        · intro w'
          go_simp
          with_reducible rfl
        rotate_left
        · simp only [Act.put, List.setIfInBounds_toArray, List.set_cons_zero, List.set_cons_succ, i64_w, i32_w]
          rfl
        refine take_ (i := 3) (N := some 18) (v := ?_) (a' := ?_) #[true, true, true, true, false, false, true, true, true, true, false, false, false, false] rfl rfl (take_ofW HT_.out HW_.out (by kernel_rfl)) (fun _ _ _ h => h) (Or.inl ⟨by rfl, ?_⟩) hHeld ?_ ?_
        rotate_left
        · rintro w' ⟨s0, s1⟩
          go_simp
          with_reducible rfl
        rotate_left
        · simp only [Act.put, List.setIfInBounds_toArray, List.set_cons_zero, List.set_cons_succ, i64_w, i32_w]
          rfl
        refine pure_ (i := 4) (N := some 19) (v := ?_) (a' := ?_) #[true, true, true, true, true, false, true, true, true, true, false, false, false, false] rfl rfl (any_of HT_.out (by kernel_rfl)) (fun _ _ _ h => h) (Or.inl ⟨by rfl, ?_⟩) ?_ ?_
        rotate_left
        · intro w'
          go_simp
          with_reducible rfl
        rotate_left
        · simp only [Act.put, List.setIfInBounds_toArray, List.set_cons_zero, List.set_cons_succ, i64_w, i32_w]
          rfl
        refine pure_ (i := 5) (N := some 20) (v := ?_) (a' := ?_) #[true, true, true, true, true, true, true, true, true, true, false, false, false, false] rfl rfl (any_of HT_.out (by kernel_rfl)) (fun _ _ _ h => h) (Or.inl ⟨by rfl, ?_⟩) ?_ ?_
        rotate_left
        · intro w'
          go_simp
          with_reducible rfl
        rotate_left
        · simp only [Act.put, List.setIfInBounds_toArray, List.set_cons_zero, List.set_cons_succ, i64_w, i32_w]
          rfl
        refine take_ (i := 10) (N := some 25) (v := ?_) (a' := ?_) #[true, true, true, true, true, true, true, true, true, true, true, false, false, false] rfl rfl (take_ofW HT_.out HW_.out (by kernel_rfl)) (fun _ _ _ h => h) (Or.inl ⟨by rfl, ?_⟩) hHeld ?_ ?_
        rotate_left
        · rintro w' ⟨s0, s1⟩
          go_simp
          with_reducible rfl
        rotate_left
        · simp only [Act.put, List.setIfInBounds_toArray, List.set_cons_zero, List.set_cons_succ, i64_w, i32_w]
          rfl
        refine pure_ (i := 11) (N := some 26) (v := ?_) (a' := ?_) #[true, true, true, true, true, true, true, true, true, true, true, true, false, false] rfl rfl (any_of HT_.out (by kernel_rfl)) (fun _ _ _ h => h) (Or.inl ⟨by rfl, ?_⟩) ?_ ?_
        rotate_left
        · intro w'
          go_simp
          with_reducible rfl
        rotate_left
        · simp only [Act.put, List.setIfInBounds_toArray, List.set_cons_zero, List.set_cons_succ, i64_w, i32_w]
          rfl
        refine pure_ (i := 12) (N := some 27) (v := ?_) (a' := ?_) #[true, true, true, true, true, true, true, true, true, true, true, true, true, false] rfl rfl (any_of HT_.out (by kernel_rfl)) (fun _ _ _ h => h) (Or.inl ⟨by rfl, ?_⟩) ?_ ?_
        rotate_left
        · intro w'
          go_simp
          with_reducible rfl
        rotate_left
        · simp only [Act.put, List.setIfInBounds_toArray, List.set_cons_zero, List.set_cons_succ, i64_w, i32_w]
          rfl
        refine pure_ (i := 13) (N := some 6) (v := ?_) (a' := ?_) #[true, true, true, true, true, true, true, true, true, true, true, true, true, true] rfl rfl (any_of HT_.out (by kernel_rfl)) (fun _ _ _ h => h) (Or.inl ⟨by rfl, ?_⟩) ?_ ?_
        rotate_left
        · intro w'
          go_simp
          with_reducible rfl
        rotate_left
        · simp only [Act.put, List.setIfInBounds_toArray, List.set_cons_zero, List.set_cons_succ, i64_w, i32_w]
          rfl
        refine done_ (done_of HT_.out (by kernel_rfl)) ?_
        go_upto_region 5 with (fail)
        go_cut [38] (fun v38 wc => ∃ (kq : Nat) (x38_7 : Bool), v38 = .bool x38_7 ∧ Aside0 (customsref33_Scan.j1 kq l0 x4_1 x5_1 (wrap64 ((wrap64 ((wrap64 (rd l0 x5_1)) * 256)) + (wrap64 (rd l0 (ji5))))) x38_7 = some (r1, r2)) ∧ Aside0 (kq ≤ k1) ∧ Aside0 (Kd.S k57 57 wc w.heap.size (fun _ => True) u4 x4_1) ∧ Aside0 (Below w.heap.size w wc))
        case first =>
          have H := HC8.out
          clear HC8
          by_cases c10 : (wrap64 ((wrap64 ((wrap64 (rd l0 x5_1)) * 256)) + (wrap64 (rd l0 (ji5))))) > 60000
          · rw [if_pos c10] at H
            have c10b0 : decide (60000 < (wrap64 ((wrap64 ((wrap64 (rd l0 x5_1)) * 256)) + (wrap64 (rd l0 (ji5)))))) = true := decide_eq_true c10
            clear c10
            (first | rw [c10b0] | (simp only [i64_w, i32_w]; rw [c10b0]) | skip)
            have H' := Aside0.mk H
            clear H
            go_wp2
            go_meet
            case rel => exact ⟨_, (true), (by first | rfl | (simp; done) | (simp [*]; done)), H', ⟨by have := HK1.out; first | omega | exact Nat.le_refl _⟩, ⟨Kd.S_ext HO_4.out⟩, ⟨below_ext HB.out⟩⟩
          · rw [if_neg c10] at H
            have c10b0 : decide (60000 < (wrap64 ((wrap64 ((wrap64 (rd l0 x5_1)) * 256)) + (wrap64 (rd l0 (ji5)))))) = false := decide_eq_false c10
            clear c10
            (first | rw [c10b0] | (simp only [i64_w, i32_w]; rw [c10b0]) | skip)
            have H' := Aside0.mk H
            clear H
            go_wp2
            go_meet
            case rel => exact ⟨_, (decide ((wrap64 ((wrap64 (x5_1 + 9)) + (wrap64 ((wrap64 ((wrap64 (rd l0 x5_1)) * 256)) + (wrap64 (rd l0 (ji5))))))) > (l0.length : Int))), (by first | rfl | (simp; done) | (simp only [← hji5] <;> (first | rfl | simp)) | (simp [*]; done)), H', ⟨by have := HK1.out; first | omega | exact Nat.le_refl _⟩, ⟨Kd.S_ext HO_4.out⟩, ⟨below_ext HB.out⟩⟩
        case rest =>
          clear HC8
          try clear c1
          try clear c2
          try clear c2b0
          try clear p2
          try clear c3
          try clear c3b0
          try clear c4
          try clear c4b0
          try clear c5
          try clear p5
          try clear q5
          try clear hx5
          try clear c6
          try clear c6b0
          try clear p6
          try clear c7
          try clear c7b0
          try clear c10
          try clear c10b0
          try clear hx54001_0
          try clear hx54002_0
          try clear p54001
          try clear p54002
          try clear q54001
          try clear q54002
          obtain ⟨kq, x38_7, rfl, HA, HJ7, HO_4, HB⟩ := hcut
          cases kq with
          | zero => exact absurd HA.out (by simp [customsref33_Scan.j1])
          | succ kj7 =>
            have H := HA.out
            clear HA
            simp only [customsref33_Scan.j1] at H
            by_cases c11 : x38_7 = true
            · subst c11
              have H1 : (some (x4_1, x5_1)) = some (r1, r2) := by rw [if_pos rfl] at H; exact H
              clear H
              have H := H1
              clear H1
              simp only [Option.some.injEq, Prod.mk.injEq] at H
              obtain ⟨rfl, rfl⟩ := H
              go_wp2
              go_ret2
              exact ⟨_, by first | rfl | (simp [errW_none, errW_some] <;> rfl) | (simp only [← hji5]; first | rfl | (simp [errW_none, errW_some] <;> rfl)) | (simp [*, errW_none, errW_some] <;> rfl), Kd.S_ext HO_4.out, below_ext HB.out⟩
            · replace c11 := Bool.eq_false_iff.mpr c11
              subst c11
              have H1 : (if 0 ≤ (wrap64 (x5_1 + 4)) then (if (wrap64 (x5_1 + 4)) < (l0.length : Int) then ((some (([] : List Int) : List Int)).bind fun y54004 => (if 0 ≤ (wrap64 (x5_1 + 5)) then (if (wrap64 (x5_1 + 5)) ≤ (wrap64 ((wrap64 (x5_1 + 5)) + (wrap64 ((wrap64 ((wrap64 (rd l0 x5_1)) * 256)) + (wrap64 (rd l0 (ji5))))))) then (if (wrap64 ((wrap64 (x5_1 + 5)) + (wrap64 ((wrap64 ((wrap64 (rd l0 x5_1)) * 256)) + (wrap64 (rd l0 (ji5))))))) ≤ (l0.length : Int) then (if y54004.length + ((l0.take ((wrap64 ((wrap64 (x5_1 + 5)) + (wrap64 ((wrap64 ((wrap64 (rd l0 x5_1)) * 256)) + (wrap64 (rd l0 (ji5))))))) : Int).toNat).drop ((wrap64 (x5_1 + 5)) : Int).toNat).length < 140737488355328 then ((some (y54004 ++ ((l0.take ((wrap64 ((wrap64 (x5_1 + 5)) + (wrap64 ((wrap64 ((wrap64 (rd l0 x5_1)) * 256)) + (wrap64 (rd l0 (ji5))))))) : Int).toNat).drop ((wrap64 (x5_1 + 5)) : Int).toNat) : List Int)).bind fun y54008 => ((customsref33_Encode.f kj7 (wrap64 (rd l0 (wrap64 (x5_1 + 4)))) y54008).bind fun bt54012 => (if bt54012.2 = 0 then (if 0 ≤ x5_1 then (if x5_1 ≤ (wrap64 ((wrap64 (x5_1 + 9)) + (wrap64 ((wrap64 ((wrap64 (rd l0 x5_1)) * 256)) + (wrap64 (rd l0 (ji5))))))) then (if (wrap64 ((wrap64 (x5_1 + 9)) + (wrap64 ((wrap64 ((wrap64 (rd l0 x5_1)) * 256)) + (wrap64 (rd l0 (ji5))))))) ≤ (l0.length : Int) then ((customsref33_SameBytes.f bt54012.1 ((l0.take ((wrap64 ((wrap64 (x5_1 + 9)) + (wrap64 ((wrap64 ((wrap64 (rd l0 x5_1)) * 256)) + (wrap64 (rd l0 (ji5))))))) : Int).toNat).drop (x5_1 : Int).toNat)).bind fun t54017 => (if t54017 = true then (if x4_1.length < 4398046511104 then (customsref33_Scan.l0 kj7 l0 (x4_1 ++ [(⟨wrap64 (rd l0 (wrap64 (x5_1 + 4))), y54008⟩ : S57)]) (wrap64 ((wrap64 (x5_1 + 9)) + (wrap64 ((wrap64 ((wrap64 (rd l0 x5_1)) * 256)) + (wrap64 (rd l0 (ji5)))))))) else (none)) else (some (x4_1, x5_1)))) else (none)) else (none)) else (none)) else (some (x4_1, x5_1))))) else (none)) else (none)) else (none)) else (none))) else (none)) else (none)) = some (r1, r2) := by rw [if_neg (show ¬ (false = true) by decide)] at H; exact H
              clear H
              have H := H1
              clear H1
              obtain ⟨ji12, hji12⟩ : ∃ j_ : Int, (wrap64 (x5_1 + 4)) = j_ := ⟨_, rfl⟩
              replace H : (if 0 ≤ (ji12) then (if (ji12) < (l0.length : Int) then ((some (([] : List Int) : List Int)).bind fun y54004 => (if 0 ≤ (wrap64 (x5_1 + 5)) then (if (wrap64 (x5_1 + 5)) ≤ (wrap64 ((wrap64 (x5_1 + 5)) + (wrap64 ((wrap64 ((wrap64 (rd l0 x5_1)) * 256)) + (wrap64 (rd l0 (ji5))))))) then (if (wrap64 ((wrap64 (x5_1 + 5)) + (wrap64 ((wrap64 ((wrap64 (rd l0 x5_1)) * 256)) + (wrap64 (rd l0 (ji5))))))) ≤ (l0.length : Int) then (if y54004.length + ((l0.take ((wrap64 ((wrap64 (x5_1 + 5)) + (wrap64 ((wrap64 ((wrap64 (rd l0 x5_1)) * 256)) + (wrap64 (rd l0 (ji5))))))) : Int).toNat).drop ((wrap64 (x5_1 + 5)) : Int).toNat).length < 140737488355328 then ((some (y54004 ++ ((l0.take ((wrap64 ((wrap64 (x5_1 + 5)) + (wrap64 ((wrap64 ((wrap64 (rd l0 x5_1)) * 256)) + (wrap64 (rd l0 (ji5))))))) : Int).toNat).drop ((wrap64 (x5_1 + 5)) : Int).toNat) : List Int)).bind fun y54008 => ((customsref33_Encode.f kj7 (wrap64 (rd l0 (ji12))) y54008).bind fun bt54012 => (if bt54012.2 = 0 then (if 0 ≤ x5_1 then (if x5_1 ≤ (wrap64 ((wrap64 (x5_1 + 9)) + (wrap64 ((wrap64 ((wrap64 (rd l0 x5_1)) * 256)) + (wrap64 (rd l0 (ji5))))))) then (if (wrap64 ((wrap64 (x5_1 + 9)) + (wrap64 ((wrap64 ((wrap64 (rd l0 x5_1)) * 256)) + (wrap64 (rd l0 (ji5))))))) ≤ (l0.length : Int) then ((customsref33_SameBytes.f bt54012.1 ((l0.take ((wrap64 ((wrap64 (x5_1 + 9)) + (wrap64 ((wrap64 ((wrap64 (rd l0 x5_1)) * 256)) + (wrap64 (rd l0 (ji5))))))) : Int).toNat).drop (x5_1 : Int).toNat)).bind fun t54017 => (if t54017 = true then (if x4_1.length < 4398046511104 then (customsref33_Scan.l0 kj7 l0 (x4_1 ++ [(⟨wrap64 (rd l0 (ji12)), y54008⟩ : S57)]) (wrap64 ((wrap64 (x5_1 + 9)) + (wrap64 ((wrap64 ((wrap64 (rd l0 x5_1)) * 256)) + (wrap64 (rd l0 (ji5)))))))) else (none)) else (some (x4_1, x5_1)))) else (none)) else (none)) else (none)) else (some (x4_1, x5_1))))) else (none)) else (none)) else (none)) else (none))) else (none)) else (none)) = some (r1, r2) := by first | (rw [hji12] at H; exact H) | (simp only [hji12] at H ⊢; exact H)
              have hji12w : (IntKind.i64.wrap (x5_1 + 4)) = ji12 := (i64_w _).trans hji12
              replace H := if_some H; obtain ⟨c13, H⟩ := H
              have c13b0 : decide (0 ≤ (ji12)) = true := decide_eq_true c13
              clear c13
              replace H := if_some H; obtain ⟨c14, H⟩ := H
              have c14b0 : decide ((ji12) < (l0.length : Int)) = true := decide_eq_true c14
              clear c14
              obtain ⟨y54004, hy54004⟩ : ∃ y_ : List Int, y_ = (([] : List Int)) := ⟨_, rfl⟩
              replace H : (if 0 ≤ (wrap64 (x5_1 + 5)) then (if (wrap64 (x5_1 + 5)) ≤ (wrap64 ((wrap64 (x5_1 + 5)) + (wrap64 ((wrap64 ((wrap64 (rd l0 x5_1)) * 256)) + (wrap64 (rd l0 (ji5))))))) then (if (wrap64 ((wrap64 (x5_1 + 5)) + (wrap64 ((wrap64 ((wrap64 (rd l0 x5_1)) * 256)) + (wrap64 (rd l0 (ji5))))))) ≤ (l0.length : Int) then (if y54004.length + ((l0.take ((wrap64 ((wrap64 (x5_1 + 5)) + (wrap64 ((wrap64 ((wrap64 (rd l0 x5_1)) * 256)) + (wrap64 (rd l0 (ji5))))))) : Int).toNat).drop ((wrap64 (x5_1 + 5)) : Int).toNat).length < 140737488355328 then ((some (y54004 ++ ((l0.take ((wrap64 ((wrap64 (x5_1 + 5)) + (wrap64 ((wrap64 ((wrap64 (rd l0 x5_1)) * 256)) + (wrap64 (rd l0 (ji5))))))) : Int).toNat).drop ((wrap64 (x5_1 + 5)) : Int).toNat) : List Int)).bind fun y54008 => ((customsref33_Encode.f kj7 (wrap64 (rd l0 (ji12))) y54008).bind fun bt54012 => (if bt54012.2 = 0 then (if 0 ≤ x5_1 then (if x5_1 ≤ (wrap64 ((wrap64 (x5_1 + 9)) + (wrap64 ((wrap64 ((wrap64 (rd l0 x5_1)) * 256)) + (wrap64 (rd l0 (ji5))))))) then (if (wrap64 ((wrap64 (x5_1 + 9)) + (wrap64 ((wrap64 ((wrap64 (rd l0 x5_1)) * 256)) + (wrap64 (rd l0 (ji5))))))) ≤ (l0.length : Int) then ((customsref33_SameBytes.f bt54012.1 ((l0.take ((wrap64 ((wrap64 (x5_1 + 9)) + (wrap64 ((wrap64 ((wrap64 (rd l0 x5_1)) * 256)) + (wrap64 (rd l0 (ji5))))))) : Int).toNat).drop (x5_1 : Int).toNat)).bind fun t54017 => (if t54017 = true then (if x4_1.length < 4398046511104 then (customsref33_Scan.l0 kj7 l0 (x4_1 ++ [(⟨wrap64 (rd l0 (ji12)), y54008⟩ : S57)]) (wrap64 ((wrap64 (x5_1 + 9)) + (wrap64 ((wrap64 ((wrap64 (rd l0 x5_1)) * 256)) + (wrap64 (rd l0 (ji5)))))))) else (none)) else (some (x4_1, x5_1)))) else (none)) else (none)) else (none)) else (some (x4_1, x5_1))))) else (none)) else (none)) else (none)) else (none)) = some (r1, r2) := by first | (rw [hy54004]; with_reducible exact H) | (have H2_ := (Option.bind_some _ _).symm.trans H; rw [hy54004]; with_reducible exact H2_) | (have H2_ := (Option.bind_some _ _).symm.trans H; with_reducible exact H2_) | with_reducible exact H | (rw [hy54004]; exact H) | exact H
              have Ny54004 := Aside0.mk hy54004
              clear hy54004
              obtain ⟨ji15, hji15⟩ : ∃ j_ : Int, (wrap64 (x5_1 + 5)) = j_ := ⟨_, rfl⟩
              replace H : (if 0 ≤ (ji15) then (if (ji15) ≤ (wrap64 ((ji15) + (wrap64 ((wrap64 ((wrap64 (rd l0 x5_1)) * 256)) + (wrap64 (rd l0 (ji5))))))) then (if (wrap64 ((ji15) + (wrap64 ((wrap64 ((wrap64 (rd l0 x5_1)) * 256)) + (wrap64 (rd l0 (ji5))))))) ≤ (l0.length : Int) then (if y54004.length + ((l0.take ((wrap64 ((ji15) + (wrap64 ((wrap64 ((wrap64 (rd l0 x5_1)) * 256)) + (wrap64 (rd l0 (ji5))))))) : Int).toNat).drop ((ji15) : Int).toNat).length < 140737488355328 then ((some (y54004 ++ ((l0.take ((wrap64 ((ji15) + (wrap64 ((wrap64 ((wrap64 (rd l0 x5_1)) * 256)) + (wrap64 (rd l0 (ji5))))))) : Int).toNat).drop ((ji15) : Int).toNat) : List Int)).bind fun y54008 => ((customsref33_Encode.f kj7 (wrap64 (rd l0 (ji12))) y54008).bind fun bt54012 => (if bt54012.2 = 0 then (if 0 ≤ x5_1 then (if x5_1 ≤ (wrap64 ((wrap64 (x5_1 + 9)) + (wrap64 ((wrap64 ((wrap64 (rd l0 x5_1)) * 256)) + (wrap64 (rd l0 (ji5))))))) then (if (wrap64 ((wrap64 (x5_1 + 9)) + (wrap64 ((wrap64 ((wrap64 (rd l0 x5_1)) * 256)) + (wrap64 (rd l0 (ji5))))))) ≤ (l0.length : Int) then ((customsref33_SameBytes.f bt54012.1 ((l0.take ((wrap64 ((wrap64 (x5_1 + 9)) + (wrap64 ((wrap64 ((wrap64 (rd l0 x5_1)) * 256)) + (wrap64 (rd l0 (ji5))))))) : Int).toNat).drop (x5_1 : Int).toNat)).bind fun t54017 => (if t54017 = true then (if x4_1.length < 4398046511104 then (customsref33_Scan.l0 kj7 l0 (x4_1 ++ [(⟨wrap64 (rd l0 (ji12)), y54008⟩ : S57)]) (wrap64 ((wrap64 (x5_1 + 9)) + (wrap64 ((wrap64 ((wrap64 (rd l0 x5_1)) * 256)) + (wrap64 (rd l0 (ji5)))))))) else (none)) else (some (x4_1, x5_1)))) else (none)) else (none)) else (none)) else (some (x4_1, x5_1))))) else (none)) else (none)) else (none)) else (none)) = some (r1, r2) := by first | (rw [hji15] at H; exact H) | (simp only [hji15] at H ⊢; exact H)
              have hji15w : (IntKind.i64.wrap (x5_1 + 5)) = ji15 := (i64_w _).trans hji15
              replace H := if_some H; obtain ⟨c16, H⟩ := H
              have c16b0 := eq_true c16
              have c16b1 : decide (0 ≤ (ji15)) = true := decide_eq_true c16
              clear c16
              replace H := if_some H; obtain ⟨c17, H⟩ := H
              have c17b0 := eq_true c17
              have c17b1 : decide ((ji15) ≤ (wrap64 ((ji15) + (wrap64 ((wrap64 ((wrap64 (rd l0 x5_1)) * 256)) + (wrap64 (rd l0 (ji5)))))))) = true := decide_eq_true c17
              replace H := if_some H; obtain ⟨c18, H⟩ := H
              have c18b0 := eq_true c18
              have c18b1 : decide ((wrap64 ((ji15) + (wrap64 ((wrap64 ((wrap64 (rd l0 x5_1)) * 256)) + (wrap64 (rd l0 (ji5))))))) ≤ (l0.length : Int)) = true := decide_eq_true c18
              replace H := if_some H; obtain ⟨c19, H⟩ := H
              have LMc19 := Aside0.mk c19
              clear c19
              obtain ⟨y54008, hy54008⟩ : ∃ y_ : List Int, y_ = (y54004 ++ ((l0.take ((wrap64 ((ji15) + (wrap64 ((wrap64 ((wrap64 (rd l0 x5_1)) * 256)) + (wrap64 (rd l0 (ji5))))))) : Int).toNat).drop ((ji15) : Int).toNat)) := ⟨_, rfl⟩
              replace H : ((customsref33_Encode.f kj7 (wrap64 (rd l0 (ji12))) y54008).bind fun bt54012 => (if bt54012.2 = 0 then (if 0 ≤ x5_1 then (if x5_1 ≤ (wrap64 ((wrap64 (x5_1 + 9)) + (wrap64 ((wrap64 ((wrap64 (rd l0 x5_1)) * 256)) + (wrap64 (rd l0 (ji5))))))) then (if (wrap64 ((wrap64 (x5_1 + 9)) + (wrap64 ((wrap64 ((wrap64 (rd l0 x5_1)) * 256)) + (wrap64 (rd l0 (ji5))))))) ≤ (l0.length : Int) then ((customsref33_SameBytes.f bt54012.1 ((l0.take ((wrap64 ((wrap64 (x5_1 + 9)) + (wrap64 ((wrap64 ((wrap64 (rd l0 x5_1)) * 256)) + (wrap64 (rd l0 (ji5))))))) : Int).toNat).drop (x5_1 : Int).toNat)).bind fun t54017 => (if t54017 = true then (if x4_1.length < 4398046511104 then (customsref33_Scan.l0 kj7 l0 (x4_1 ++ [(⟨wrap64 (rd l0 (ji12)), y54008⟩ : S57)]) (wrap64 ((wrap64 (x5_1 + 9)) + (wrap64 ((wrap64 ((wrap64 (rd l0 x5_1)) * 256)) + (wrap64 (rd l0 (ji5)))))))) else (none)) else (some (x4_1, x5_1)))) else (none)) else (none)) else (none)) else (some (x4_1, x5_1)))) = some (r1, r2) := by first | (rw [hy54008]; with_reducible exact H) | (have H2_ := (Option.bind_some _ _).symm.trans H; rw [hy54008]; with_reducible exact H2_) | (have H2_ := (Option.bind_some _ _).symm.trans H; with_reducible exact H2_) | with_reducible exact H | (rw [hy54008]; exact H) | exact H
              have Ny54008 := Aside0.mk hy54008
              clear hy54008
              replace H := Option.bind_eq_some_iff.mp H
              obtain ⟨⟨t54012, t54015⟩, A200, H⟩ := H
              replace H : (if t54015 = 0 then (if 0 ≤ x5_1 then (if x5_1 ≤ (wrap64 ((wrap64 (x5_1 + 9)) + (wrap64 ((wrap64 ((wrap64 (rd l0 x5_1)) * 256)) + (wrap64 (rd l0 (ji5))))))) then (if (wrap64 ((wrap64 (x5_1 + 9)) + (wrap64 ((wrap64 ((wrap64 (rd l0 x5_1)) * 256)) + (wrap64 (rd l0 (ji5))))))) ≤ (l0.length : Int) then ((customsref33_SameBytes.f t54012 ((l0.take ((wrap64 ((wrap64 (x5_1 + 9)) + (wrap64 ((wrap64 ((wrap64 (rd l0 x5_1)) * 256)) + (wrap64 (rd l0 (ji5))))))) : Int).toNat).drop (x5_1 : Int).toNat)).bind fun t54017 => (if t54017 = true then (if x4_1.length < 4398046511104 then (customsref33_Scan.l0 kj7 l0 (x4_1 ++ [(⟨wrap64 (rd l0 (ji12)), y54008⟩ : S57)]) (wrap64 ((wrap64 (x5_1 + 9)) + (wrap64 ((wrap64 ((wrap64 (rd l0 x5_1)) * 256)) + (wrap64 (rd l0 (ji5)))))))) else (none)) else (some (x4_1, x5_1)))) else (none)) else (none)) else (none)) else (some (x4_1, x5_1))) = some (r1, r2) := H
              have A20 := Aside0.mk A200
              clear A200
              by_cases c21 : t54015 = 0
              · rw [if_pos c21] at H
                have c21b0 : (t54015 == 0) = true := beq_iff_eq.mpr c21
                have c21b1 : (t54015 != 0) = false := bne_eq_false_iff_eq.mpr c21
                clear c21
                replace H := if_some H; obtain ⟨c22, H⟩ := H
                have c22b0 := eq_true c22
                have c22b1 : decide (0 ≤ x5_1) = true := decide_eq_true c22
                clear c22
                replace H := if_some H; obtain ⟨c23, H⟩ := H
                have c23b0 := eq_true c23
                have c23b1 : decide (x5_1 ≤ (wrap64 ((wrap64 (x5_1 + 9)) + (wrap64 ((wrap64 ((wrap64 (rd l0 x5_1)) * 256)) + (wrap64 (rd l0 (ji5)))))))) = true := decide_eq_true c23
                replace H := if_some H; obtain ⟨c24, H⟩ := H
                have c24b0 := eq_true c24
                have c24b1 : decide ((wrap64 ((wrap64 (x5_1 + 9)) + (wrap64 ((wrap64 ((wrap64 (rd l0 x5_1)) * 256)) + (wrap64 (rd l0 (ji5))))))) ≤ (l0.length : Int)) = true := decide_eq_true c24
                replace H := Option.bind_eq_some_iff.mp H
                obtain ⟨t54017, A250, H⟩ := H
                replace H : (if t54017 = true then (if x4_1.length < 4398046511104 then (customsref33_Scan.l0 kj7 l0 (x4_1 ++ [(⟨wrap64 (rd l0 (ji12)), y54008⟩ : S57)]) (wrap64 ((wrap64 (x5_1 + 9)) + (wrap64 ((wrap64 ((wrap64 (rd l0 x5_1)) * 256)) + (wrap64 (rd l0 (ji5)))))))) else (none)) else (some (x4_1, x5_1))) = some (r1, r2) := H
                have A25 := Aside0.mk A250
                clear A250
                by_cases c26 : t54017 = true
                · subst c26
                  have H1 : (if x4_1.length < 4398046511104 then (customsref33_Scan.l0 kj7 l0 (x4_1 ++ [(⟨wrap64 (rd l0 (ji12)), y54008⟩ : S57)]) (wrap64 ((wrap64 (x5_1 + 9)) + (wrap64 ((wrap64 ((wrap64 (rd l0 x5_1)) * 256)) + (wrap64 (rd l0 (ji5)))))))) else (none)) = some (r1, r2) := by rw [if_pos rfl] at H; exact H
                  clear H
                  have H := H1
                  clear H1
                  replace H := if_some H; obtain ⟨c27, H⟩ := H
                  have LMc27 := Aside0.mk c27
                  clear c27
                  obtain ⟨y54018, hy54018⟩ : ∃ y_ : List (S57), y_ = (x4_1 ++ [(⟨wrap64 (rd l0 (ji12)), y54008⟩ : S57)]) := ⟨_, rfl⟩
                  replace H : (customsref33_Scan.l0 kj7 l0 y54018 (wrap64 ((wrap64 (x5_1 + 9)) + (wrap64 ((wrap64 ((wrap64 (rd l0 x5_1)) * 256)) + (wrap64 (rd l0 (ji5)))))))) = some (r1, r2) := by first | (rw [hy54018]; with_reducible exact H) | (have H2_ := (Option.bind_some _ _).symm.trans H; rw [hy54018]; with_reducible exact H2_) | (have H2_ := (Option.bind_some _ _).symm.trans H; with_reducible exact H2_) | with_reducible exact H | (rw [hy54018]; exact H) | exact H
                  have Ny54018 := Aside0.mk hy54018
                  clear hy54018
                  have H' := Aside0.mk H
                  clear H
                  try go_wp2
                  have n0_ := Aside0.mk (Kd.S_drew HO_4.out)
                  have n1_ := Aside0.mk (below_drew1 HB.out)
                  clear HO_4
                  clear HB
                  have HO_4 := n0_
                  have HB := n1_
                  clear n0_ n1_
                  have p54003 : 0 ≤ ((ji12) : Int) := of_decide_eq_true (by first | (with_reducible assumption) | assumption)
                  have q54003 : (ji12) < (l0.length : Int) := of_decide_eq_true (by first | (with_reducible assumption) | assumption)
                  obtain ⟨ad54003, e54003, hx54003_0⟩ := Kd.at_int HR0.out (ji12) p54003 q54003
                  have hw54003_0 := hx54003_0
                  obtain rfl : ad54001 = ad54003 := (by injection e54003)
                  replace hx54003_0 := (HB.out.cell (World.block_lt_of_cell? w _ hx54003_0)).trans hx54003_0
                  replace p54003 := eq_true p54003
                  replace q54003 := eq_true q54003
                  obtain ⟨i029, hi029, _, hsz29, _⟩ := info_parts info5
                  obtain ⟨A29, hcut29, hA29, hC29⟩ := print_mid_of (P := Try.prog) (Value.int .u8) 0 22 5 .i64 .i64 Try.underlying22 hi029 hsz29 (some ad54001) c0 l0 (ji15) (wrap64 ((ji15) + (wrap64 ((wrap64 ((wrap64 (rd l0 x5_1)) * 256)) + (wrap64 (rd l0 (ji5))))))) (of_decide_eq_true (by first | (with_reducible assumption) | assumption)) (by first | omega | exact of_decide_eq_true (by first | (with_reducible assumption) | assumption)) (of_decide_eq_true (by first | (with_reducible assumption) | assumption)) HC0.out
                  have HR54007 := Aside0.mk (Kd.C_of_reads (h1 := fun _ => rfl) (hA29 _ (Kd.reads_of_C HR0.out)))
                  have HC54007 := Aside0.mk hC29
                  clear hA29 hC29 hi029 hsz29
                  refine start_ (n := 19) (S := fun w' => w'.cell? (ad54001.add ((ji12)).toNat) = some (.int .u8 (rd l0 (ji12)))) (ds := []) #[false, false, false, false, false, false, false, false, false, false, false, false, false, false, false, false, false, false, false] (by kernel_rfl) rfl rfl (((HB.out.cell (World.block_lt_of_cell? w _ hw54003_0)).trans hw54003_0)) (fun hHeld => ?_); refine with_tabW customsref33_Scan.tab6 customsref33_Scan.bits6 (fun HT_ HW_ => ?_)
                  generalize wc.drew = w28 at HO_4 HB HR54007 hx54003_0 hHeld ⊢
                  refine pure_ (i := 0) (N := some 39) (v := ?_) (a' := ?_) #[true, false, false, false, false, false, false, false, false, false, false, false, false, false, false, false, false, false, false] rfl rfl (any_of HT_.out (by kernel_rfl)) (fun _ _ _ h => h) (Or.inl ⟨by rfl, ?_⟩) ?_ ?_
                  rotate_left
                  · intro w'
                    go_simp
                    with_reducible rfl
                  rotate_left
                  · simp only [Act.put, List.setIfInBounds_toArray, List.set_cons_zero, List.set_cons_succ, i64_w, i32_w]
                    rfl
                  refine pure_ (i := 1) (N := some 40) (v := ?_) (a' := ?_) #[true, true, false, false, false, false, false, false, false, false, false, false, false, false, false, false, false, false, false] rfl rfl (any_of HT_.out (by kernel_rfl)) (fun _ _ _ h => h) (Or.inl ⟨by rfl, ?_⟩) ?_ ?_
                  rotate_left
                  · intro w'
                    go_simp
                    with_reducible rfl
                  rotate_left
                  · simp only [Act.put, List.setIfInBounds_toArray, List.set_cons_zero, List.set_cons_succ, i64_w, i32_w]
                    rfl
                  refine pure_ (i := 2) (N := some 41) (v := ?_) (a' := ?_) #[true, true, true, false, false, false, false, false, false, false, false, false, false, false, false, false, false, false, false] rfl rfl (any_of HT_.out (by kernel_rfl)) (fun _ _ _ h => h) (Or.inl ⟨by rfl, ?_⟩) ?_ ?_
                  rotate_left
                  · intro w'
                    go_simp
                    with_reducible rfl
                  rotate_left
                  · simp only [Act.put, List.setIfInBounds_toArray, List.set_cons_zero, List.set_cons_succ, i64_w, i32_w]
                    rfl
                  refine pure_ (i := 3) (N := some 42) (v := ?_) (a' := ?_) #[true, true, true, true, false, false, false, false, false, false, false, false, false, false, false, false, false, false, false] rfl rfl (any_of HT_.out (by kernel_rfl)) (fun _ _ _ h => h) (Or.inl ⟨by rfl, ?_⟩) ?_ ?_
                  rotate_left
                  · intro w'
                    go_simp
                    with_reducible rfl
                  rotate_left
                  · simp only [Act.put, List.setIfInBounds_toArray, List.set_cons_zero, List.set_cons_succ, i64_w, i32_w]
                    rfl
                  refine pure_ (i := 7) (N := some 46) (v := ?_) (a' := ?_) #[true, true, true, true, false, false, false, true, false, false, false, false, false, false, false, false, false, false, false] rfl rfl (any_of HT_.out (by kernel_rfl)) (fun _ _ _ h => h) (Or.inl ⟨by rfl, ?_⟩) ?_ ?_
                  rotate_left
                  · intro w'
                    go_simp
                    with_reducible rfl
                  rotate_left
                  · simp only [Act.put, List.setIfInBounds_toArray, List.set_cons_zero, List.set_cons_succ, i64_w, i32_w]
                    rfl
                  refine pure_ (i := 8) (N := some 47) (v := ?_) (a' := ?_) #[true, true, true, true, false, false, false, true, true, false, false, false, false, false, false, false, false, false, false] rfl rfl (any_of HT_.out (by kernel_rfl)) (fun _ _ _ h => h) (Or.inl ⟨by rfl, ?_⟩) ?_ ?_
                  rotate_left
                  · intro w'
                    go_simp
                    with_reducible rfl
                  rotate_left
                  · simp only [Act.put, List.setIfInBounds_toArray, List.set_cons_zero, List.set_cons_succ, i64_w, i32_w]
                    rfl
                  refine pure_ (i := 9) (N := some 48) (v := ?_) (a' := ?_) #[true, true, true, true, false, false, false, true, true, true, false, false, false, false, false, false, false, false, false] rfl rfl (any_of HT_.out (by kernel_rfl)) (fun _ _ _ h => h) (Or.inl ⟨by rfl, ?_⟩) ?_ ?_
                  rotate_left
                  · intro w'
                    go_simp
                    with_reducible rfl
                  rotate_left
                  · simp only [Act.put, List.setIfInBounds_toArray, List.set_cons_zero, List.set_cons_succ, i64_w, i32_w]
                    rfl
                  refine pure_ (i := 10) (N := some 49) (v := ?_) (a' := ?_) #[true, true, true, true, false, false, false, true, true, true, true, false, false, false, false, false, false, false, false] rfl rfl (any_of HT_.out (by kernel_rfl)) (fun _ _ _ h => h) (Or.inl ⟨by rfl, ?_⟩) ?_ ?_
                  rotate_left
                  · intro w'
                    go_simp
                    with_reducible rfl
                  rotate_left
                  · simp only [Act.put, List.setIfInBounds_toArray, List.set_cons_zero, List.set_cons_succ, i64_w, i32_w]
                    rfl
                  refine pure_ (i := 11) (N := some 50) (v := ?_) (a' := ?_) #[true, true, true, true, false, false, false, true, true, true, true, true, false, false, false, false, false, false, false] rfl rfl (any_of HT_.out (by kernel_rfl)) (fun _ _ _ h => h) (Or.inl ⟨by rfl, ?_⟩) ?_ ?_
                  rotate_left
                  · intro w'
                    go_simp
                    with_reducible rfl
                  rotate_left
                  · simp only [Act.put, List.setIfInBounds_toArray, List.set_cons_zero, List.set_cons_succ, i64_w, i32_w]
                    rfl
                  refine pure_ (i := 12) (N := some 51) (v := ?_) (a' := ?_) #[true, true, true, true, false, false, false, true, true, true, true, true, true, false, false, false, false, false, false] rfl rfl (any_of HT_.out (by kernel_rfl)) (fun _ _ _ h => h) (Or.inl ⟨by rfl, ?_⟩) ?_ ?_
                  rotate_left
                  · intro w'
                    go_simp
                    with_reducible rfl
                  rotate_left
                  · simp only [Act.put, List.setIfInBounds_toArray, List.set_cons_zero, List.set_cons_succ, i64_w, i32_w]
                    rfl
                  refine pure_ (i := 13) (N := some 52) (v := ?_) (a' := ?_) #[true, true, true, true, false, false, false, true, true, true, true, true, true, true, false, false, false, false, false] rfl rfl (any_of HT_.out (by kernel_rfl)) (fun _ _ _ h => h) (Or.inl ⟨by rfl, ?_⟩) ?_ ?_
                  rotate_left
                  · intro w'
                    go_simp
                    with_reducible rfl
                  rotate_left
                  · simp only [Act.put, List.setIfInBounds_toArray, List.set_cons_zero, List.set_cons_succ, i64_w, i32_w]
                    rfl
                  refine pure_ (i := 14) (N := some 53) (v := ?_) (a' := ?_) #[true, true, true, true, false, false, false, true, true, true, true, true, true, true, true, false, false, false, false] rfl rfl (any_of HT_.out (by kernel_rfl)) (fun _ _ _ h => h) (Or.inl ⟨by rfl, ?_⟩) ?_ ?_
                  rotate_left
                  · intro w'
                    go_simp
                    with_reducible rfl
                  rotate_left
                  · simp only [Act.put, List.setIfInBounds_toArray, List.set_cons_zero, List.set_cons_succ, i64_w, i32_w]
                    rfl
                  refine take_ (i := 4) (N := some 43) (v := ?_) (a' := ?_) #[true, true, true, true, true, false, false, true, true, true, true, true, true, true, true, false, false, false, false] rfl rfl (take_ofW HT_.out HW_.out (by kernel_rfl)) (fun _ _ _ h => h) (Or.inl ⟨by rfl, ?_⟩) hHeld ?_ ?_
                  rotate_left
                  · intro w' s0
                    go_simp
                    with_reducible rfl
                  rotate_left
                  · simp only [Act.put, List.setIfInBounds_toArray, List.set_cons_zero, List.set_cons_succ, i64_w, i32_w]
                    rfl
                  refine pure_ (i := 5) (N := some 44) (v := ?_) (a' := ?_) #[true, true, true, true, true, true, false, true, true, true, true, true, true, true, true, false, false, false, false] rfl rfl (any_of HT_.out (by kernel_rfl)) (fun _ _ _ h => h) (Or.inl ⟨by rfl, ?_⟩) ?_ ?_
                  rotate_left
                  · intro w'
                    go_simp
                    with_reducible rfl
                  rotate_left
                  · simp only [Act.put, List.setIfInBounds_toArray, List.set_cons_zero, List.set_cons_succ, i64_w, i32_w]
                    rfl
                  refine join_ (σ := Value × Value × Nat) 1 #[true, true, true, true, true, true, true, true, true, true, true, true, true, true, true, true, true, true, false] (fun s_ => [(45, s_.1), (54, s_.2.1), (7, .pointer (some ⟨s_.2.2, 0, none⟩)), (55, .agg #[.int .i64 (wrap64 (rd l0 (ji12))), s_.2.1])]) (fun s_ w' => (w'.cell? (ad54001.add ((ji12)).toNat) = some (.int .u8 (rd l0 (ji12)))) ∧ (Kd.R (Kd.int .u8) 5 w' w.heap.size (fun _ => True) s_.2.1 y54008) ∧ (Kd.S k57 57 w' w.heap.size (fun k_ => some k_ ≠ (s_.2.1 : Value).ownBlock ∧ k_ ≠ s_.2.2) u4 x4_1) ∧ (w'.heap[s_.2.2]? = some (.cells #[.int .i64 0, .slice none 0 0] 57 (0, 0))) ∧ (w.heap.size ≤ s_.2.2) ∧ (w.heap.size ≤ s_.2.2) ∧ (Below w.heap.size w w')) ?_ ?_
                  rotate_left
                  · intro hCont
                    refine two_ (i := 6) (j := 17) (Ni := some 45) (Nj := some 7) #[true, true, true, true, true, true, true, true, true, true, true, true, true, true, true, false, false, false, false] #[true, true, true, true, true, true, false, true, true, true, true, true, true, true, true, false, false, true, false] rfl rfl rfl rfl (two_of HT_.out (by kernel_rfl)) (by decide) (by decide) (fun K hK => ?_) (fun K hK => ?_)
                    · skip
                      refine Kd.R_lit_step (Kd.int .u8) _ 5 ?hg (N := 45) ?hd (xs := ([] : List Int)) (inner := []) (ok := fun _ => True) (okp := fun _ => True) ?hr ?hp (fun _ hk => hk) trivial (Below.refl _ _) (Nat.le_refl _) (by simp) ?_; (case hd => rfl); (case hg => rfl); (case hr => first | (go_simp; done) | (go_simp; rfl)); (case hp => exact (Reps.none _ _))
                      intro v54005 w30 ho31 hb hg_ hnew_
                      clear hg_ hnew_
                      (first | rw [← Ny54004.out] at ho31 | (simp only [Int.reduceToNat] at ho31; rw [← Ny54004.out] at ho31))
                      have n0_ := Aside0.mk (Kd.S_elder' (Kd.S_ext HO_4.out) (Kd.R_base ho31) hb)
                      have n1_ := Aside0.mk (Kd.R_lower ho31 (below_size (below_ext HB.out)))
                      have n2_ := Aside0.mk (below_step (below_ext HB.out) hb)
                      clear HO_4
                      clear HB
                      have HO_4 := n0_
                      have HO54006 := n1_
                      have HB := n2_
                      clear n0_ n1_ n2_
                      clear hb ho31
                      refine hK.out _ _ (((HB.out.cell (World.block_lt_of_cell? w _ hw54003_0)).trans hw54003_0)) (fun hHeld => ?_)
                      clear hK K
                      refine norm_ (a' := ?_) ?_ ?_
                      rotate_left
                      · show Act.put _ (some 45) _ = _
                        simp only [Act.put, List.setIfInBounds_toArray, List.set_cons_zero, List.set_cons_succ, i64_w, i32_w]
                        rfl
                      refine two_ (i := 15) (j := 17) (Ni := some 54) (Nj := some 7) #[true, true, true, true, true, true, true, true, true, true, true, true, true, true, true, true, false, false, false] #[true, true, true, true, true, true, true, true, true, true, true, true, true, true, true, false, false, true, false] rfl rfl rfl rfl (two_of HT_.out (by kernel_rfl)) (by decide) (by decide) (fun K hK => ?_) (fun K hK => ?_)
                      · skip
                        refine Kd.R_append_rows_step (Kd.int .u8) (w0 := w) w.heap.size (by rfl) (.tmp 45) (.tmp 53) 22 5 (.int .u8 0) 1 rfl Try.underlying22 info5 rfl (by decide) (by omega) v54005 y54004 ((l0.take ((wrap64 ((ji15) + (wrap64 ((wrap64 ((wrap64 (rd l0 x5_1)) * 256)) + (wrap64 (rd l0 (ji5))))))) : Int).toNat).drop ((ji15) : Int).toNat) _ _ _ (fun _ => True) (fun _ => False) rfl rfl ?aO ?aR (fun _ _ h => h) (fun _ h => h.elim) ?aF ?aB ?aS ?aL ?_
                        (case aR => first | (refine rrow_len (show ((l0.take ((wrap64 ((ji15) + (wrap64 ((wrap64 ((wrap64 (rd l0 x5_1)) * 256)) + (wrap64 (rd l0 (ji5))))))) : Int).toNat).drop ((ji15) : Int).toNat).length = ((wrap64 ((ji15) + (wrap64 ((wrap64 ((wrap64 (rd l0 x5_1)) * 256)) + (wrap64 (rd l0 (ji5))))))).toNat - (ji15).toNat) from (by rw [List.length_drop, List.length_take]; have h_ : ((wrap64 ((ji15) + (wrap64 ((wrap64 ((wrap64 (rd l0 x5_1)) * 256)) + (wrap64 (rd l0 (ji5))))))) : Int) ≤ (l0.length : Int) := of_decide_eq_true (by first | (with_reducible assumption) | assumption); omega)) ?_; repeat (first | exact (Kd.C_below HR54007.out HB.out) | (with_reducible refine Kd.C_alloc ?_ _) | (with_reducible refine Kd.C_drewN ?_ _) | (with_reducible refine Kd.C_drew ?_))) | (refine rrow_len (m := ((l0.take ((wrap64 ((ji15) + (wrap64 ((wrap64 ((wrap64 (rd l0 x5_1)) * 256)) + (wrap64 (rd l0 (ji5))))))) : Int).toNat).drop ((ji15) : Int).toNat).length) (by simp only [List.length_drop, List.length_take]) ?_; repeat (first | exact (Kd.C_below HR54007.out HB.out) | (with_reducible refine Kd.C_alloc ?_ _) | (with_reducible refine Kd.C_drewN ?_ _) | (with_reducible refine Kd.C_drew ?_))) | (repeat (first | exact (Kd.C_below HR54007.out HB.out) | (with_reducible refine Kd.C_alloc ?_ _) | (with_reducible refine Kd.C_drewN ?_ _) | (with_reducible refine Kd.C_drew ?_))))
                        (case aB => exact (below_ext HB.out))
                        (case aF => exact (fun _ _ => trivial))
                        (case aO => exact (Kd.R_ext HO54006.out))
                        (case aS => exact (below_size (below_ext HB.out)))
                        (case aL => first | (have := LMc19.out; simp only [List.length_drop, List.length_take] at this ⊢; omega) | (have := LMc19.out; have hlx_ := (show ((l0.take ((wrap64 ((ji15) + (wrap64 ((wrap64 ((wrap64 (rd l0 x5_1)) * 256)) + (wrap64 (rd l0 (ji5))))))) : Int).toNat).drop ((ji15) : Int).toNat).length = ((wrap64 ((ji15) + (wrap64 ((wrap64 ((wrap64 (rd l0 x5_1)) * 256)) + (wrap64 (rd l0 (ji5))))))).toNat - (ji15).toNat) from (by rw [List.length_drop, List.length_take]; have h_ : ((wrap64 ((ji15) + (wrap64 ((wrap64 ((wrap64 (rd l0 x5_1)) * 256)) + (wrap64 (rd l0 (ji5))))))) : Int) ≤ (l0.length : Int) := of_decide_eq_true (by first | (with_reducible assumption) | assumption); omega)); omega))
                        intro v54009 w32 ho hb hg hat
                        rw [← Ny54008.out] at ho
                        have n0_ := Aside0.mk (Kd.S_after (ok := (fun _ => True)) (Kd.S_ext HO_4.out) hg hat)
                        have n1_ := Aside0.mk (hb)
                        have n2_ := Aside0.mk (ho)
                        clear HO_4
                        clear HB
                        clear HO54006
                        have HO_4 := n0_
                        have HB := n1_
                        have HO54010 := n2_
                        clear n0_ n1_ n2_
                        clear ho hb hg hat
                        obtain ⟨Ao33, co33, eo33⟩ := Kd.R_slice HO54010.out
                        (first | subst eo33 | (injection eo33 with f1_ f2_ f3_; have f4_ := f1_.symm; have f5_ := f3_.symm; clear f1_ f2_ f3_; subst f4_; subst f5_))
                        refine hK.out _ _ (((HB.out.cell (World.block_lt_of_cell? w _ hw54003_0)).trans hw54003_0)) (fun hHeld => ?_)
                        clear hK K
                        refine norm_ (a' := ?_) ?_ ?_
                        rotate_left
                        · show Act.put _ (some 54) _ = _
                          simp only [Act.put, List.setIfInBounds_toArray, List.set_cons_zero, List.set_cons_succ, i64_w, i32_w]
                          rfl
                        refine pure_ (i := 16) (N := some 55) (v := ?_) (a' := ?_) #[true, true, true, true, true, true, true, true, true, true, true, true, true, true, true, true, true, false, false] rfl rfl (any_of HT_.out (by kernel_rfl)) (fun _ _ _ h => h) (Or.inl ⟨by rfl, ?_⟩) ?_ ?_
                        rotate_left
                        · intro w'
                          go_simp
                          with_reducible rfl
                        rotate_left
                        · simp only [Act.put, List.setIfInBounds_toArray, List.set_cons_zero, List.set_cons_succ, i64_w, i32_w]
                          rfl
                        refine one_ (i := 17) (N := some 7) #[true, true, true, true, true, true, true, true, true, true, true, true, true, true, true, true, true, true, false] rfl rfl (one_of HT_.out (by kernel_rfl)) (by decide) (fun K hK => ?_)
                        refine box_step ?hg (N := 7) ?hd (cs := #[.int .i64 0, .slice none 0 0]) (t := 57) ?hr ?_; (case hd => rfl); (case hg => rfl); (case hr => first | (go_simp; done) | (go_simp; rfl))
                        intro gb54011 hg w34 hbox hb
                        have n0_ := Aside0.mk (Kd.S_below (Kd.S_elderB (Kd.S_ext HO_4.out) gb54011 (Nat.le_of_eq hg.symm)) hb)
                        have n1_ := Aside0.mk (Kd.R_below (Kd.R_ext HO54010.out) hb)
                        have n2_ := Aside0.mk (below_step (below_ext HB.out) hb)
                        have n3_ := Aside0.mk (hbox)
                        have n4_ := Aside0.mk ((by rw [hg]; exact (below_size (below_ext HB.out)) : w.heap.size ≤ gb54011))
                        have n5_ := Aside0.mk ((by rw [hg]; exact (below_size (below_ext HB.out)) : w.heap.size ≤ gb54011))
                        clear HO_4
                        clear HO54010
                        clear HB
                        have HO_4 := n0_
                        have HO54010 := n1_
                        have HB := n2_
                        have BK54011 := n3_
                        have GW54011 := n4_
                        have GE54011 := n5_; have GI54011 := GE_.mk GE54011.out
                        clear n0_ n1_ n2_ n3_ n4_ n5_
                        clear hb hbox hg
                        refine hK.out _ _ (((HB.out.cell (World.block_lt_of_cell? w _ hw54003_0)).trans hw54003_0)) (fun hHeld => ?_)
                        clear hK K
                        refine norm_ (a' := ?_) ?_ ?_
                        rotate_left
                        · show Act.put _ (some 7) _ = _
                          simp only [Act.put, List.setIfInBounds_toArray, List.set_cons_zero, List.set_cons_succ, i64_w, i32_w]
                          rfl
                        exact norm_ (by simp only [putAll, Act.put, List.setIfInBounds_toArray, List.set_cons_zero, List.set_cons_succ]) (hCont (v54005, .slice Ao33 y54008.length co33, gb54011) _ ⟨hHeld, (Kd.R_ext HO54010.out), (Kd.S_ext (Kd.S_mono HO_4.out (fun _ hk => ⟨hk.1.2, hk.2⟩))), (blk_ext BK54011.out), GW54011.out, GE54011.out, (below_extB HB.out)⟩)
                      · skip
                        refine box_step ?hg (N := 7) ?hd (cs := #[.int .i64 0, .slice none 0 0]) (t := 57) ?hr ?_; (case hd => rfl); (case hg => rfl); (case hr => first | (go_simp; done) | (go_simp; rfl))
                        intro gb54011 hg w32 hbox hb
                        have n0_ := Aside0.mk (Kd.S_below (Kd.S_elderB (Kd.S_ext HO_4.out) gb54011 (Nat.le_of_eq hg.symm)) hb)
                        have n1_ := Aside0.mk (Kd.R_below (Kd.R_ext HO54006.out) hb)
                        have n2_ := Aside0.mk (below_step (below_ext HB.out) hb)
                        have n3_ := Aside0.mk (hbox)
                        have n4_ := Aside0.mk ((by rw [hg]; exact (below_size (below_ext HB.out)) : w.heap.size ≤ gb54011))
                        have n5_ := Aside0.mk ((by rw [hg]; exact (below_size (below_ext HB.out)) : w.heap.size ≤ gb54011))
                        clear HO_4
                        clear HO54006
                        clear HB
                        have HO_4 := n0_
                        have HO54006 := n1_
                        have HB := n2_
                        have BK54011 := n3_
                        have GW54011 := n4_
                        have GE54011 := n5_; have GI54011 := GE_.mk GE54011.out
                        clear n0_ n1_ n2_ n3_ n4_ n5_
                        clear hb hbox hg
                        refine hK.out _ _ (((HB.out.cell (World.block_lt_of_cell? w _ hw54003_0)).trans hw54003_0)) (fun hHeld => ?_)
                        clear hK K
                        refine norm_ (a' := ?_) ?_ ?_
                        rotate_left
                        · show Act.put _ (some 7) _ = _
                          simp only [Act.put, List.setIfInBounds_toArray, List.set_cons_zero, List.set_cons_succ, i64_w, i32_w]
                          rfl
                        refine one_ (i := 15) (N := some 54) #[true, true, true, true, true, true, true, true, true, true, true, true, true, true, true, true, false, true, false] rfl rfl (one_of HT_.out (by kernel_rfl)) (by decide) (fun K hK => ?_)
                        refine Kd.R_append_rows_step (Kd.int .u8) (w0 := w) w.heap.size (by rfl) (.tmp 45) (.tmp 53) 22 5 (.int .u8 0) 1 rfl Try.underlying22 info5 rfl (by decide) (by omega) v54005 y54004 ((l0.take ((wrap64 ((ji15) + (wrap64 ((wrap64 ((wrap64 (rd l0 x5_1)) * 256)) + (wrap64 (rd l0 (ji5))))))) : Int).toNat).drop ((ji15) : Int).toNat) _ _ _ (fun _ => True) (fun _ => False) rfl rfl ?aO ?aR (fun _ _ h => h) (fun _ h => h.elim) ?aF ?aB ?aS ?aL ?_
                        (case aR => first | (refine rrow_len (show ((l0.take ((wrap64 ((ji15) + (wrap64 ((wrap64 ((wrap64 (rd l0 x5_1)) * 256)) + (wrap64 (rd l0 (ji5))))))) : Int).toNat).drop ((ji15) : Int).toNat).length = ((wrap64 ((ji15) + (wrap64 ((wrap64 ((wrap64 (rd l0 x5_1)) * 256)) + (wrap64 (rd l0 (ji5))))))).toNat - (ji15).toNat) from (by rw [List.length_drop, List.length_take]; have h_ : ((wrap64 ((ji15) + (wrap64 ((wrap64 ((wrap64 (rd l0 x5_1)) * 256)) + (wrap64 (rd l0 (ji5))))))) : Int) ≤ (l0.length : Int) := of_decide_eq_true (by first | (with_reducible assumption) | assumption); omega)) ?_; repeat (first | exact (Kd.C_below HR54007.out HB.out) | (with_reducible refine Kd.C_alloc ?_ _) | (with_reducible refine Kd.C_drewN ?_ _) | (with_reducible refine Kd.C_drew ?_))) | (refine rrow_len (m := ((l0.take ((wrap64 ((ji15) + (wrap64 ((wrap64 ((wrap64 (rd l0 x5_1)) * 256)) + (wrap64 (rd l0 (ji5))))))) : Int).toNat).drop ((ji15) : Int).toNat).length) (by simp only [List.length_drop, List.length_take]) ?_; repeat (first | exact (Kd.C_below HR54007.out HB.out) | (with_reducible refine Kd.C_alloc ?_ _) | (with_reducible refine Kd.C_drewN ?_ _) | (with_reducible refine Kd.C_drew ?_))) | (repeat (first | exact (Kd.C_below HR54007.out HB.out) | (with_reducible refine Kd.C_alloc ?_ _) | (with_reducible refine Kd.C_drewN ?_ _) | (with_reducible refine Kd.C_drew ?_))))
                        (case aB => exact (below_extB HB.out))
                        (case aF => exact (fun _ _ => trivial))
                        (case aO => exact (Kd.R_ext HO54006.out))
                        (case aS => exact (below_size (below_extB HB.out)))
                        (case aL => first | (have := LMc19.out; simp only [List.length_drop, List.length_take] at this ⊢; omega) | (have := LMc19.out; have hlx_ := (show ((l0.take ((wrap64 ((ji15) + (wrap64 ((wrap64 ((wrap64 (rd l0 x5_1)) * 256)) + (wrap64 (rd l0 (ji5))))))) : Int).toNat).drop ((ji15) : Int).toNat).length = ((wrap64 ((ji15) + (wrap64 ((wrap64 ((wrap64 (rd l0 x5_1)) * 256)) + (wrap64 (rd l0 (ji5))))))).toNat - (ji15).toNat) from (by rw [List.length_drop, List.length_take]; have h_ : ((wrap64 ((ji15) + (wrap64 ((wrap64 ((wrap64 (rd l0 x5_1)) * 256)) + (wrap64 (rd l0 (ji5))))))) : Int) ≤ (l0.length : Int) := of_decide_eq_true (by first | (with_reducible assumption) | assumption); omega)); omega))
                        intro v54009 w33 ho hb hg hat
                        rw [← Ny54008.out] at ho
                        have n0_ := Aside0.mk (Kd.S_after (ok := (fun k_ => k_ ≠ gb54011)) (Kd.S_ext (Kd.S_mono HO_4.out (fun _ hk => ⟨hk.2, hk.1.2⟩))) hg hat)
                        have n1_ := Aside0.mk (blk_grown (g := gb54011) (o := .cells #[.int .i64 0, .slice none 0 0] 57 (0, 0)) (blk_ext BK54011.out) hg (Kd.R_ne HO54006.out BK54011.out (by decide)))
                        have n2_ := Aside0.mk (hb)
                        have n3_ := Aside0.mk (ho)
                        clear HO_4
                        clear BK54011
                        clear HB
                        clear HO54006
                        have HO_4 := n0_
                        have BK54011 := n1_
                        have HB := n2_
                        have HO54010 := n3_
                        clear n0_ n1_ n2_ n3_
                        clear ho hb hg hat
                        obtain ⟨Ao34, co34, eo34⟩ := Kd.R_slice HO54010.out
                        (first | subst eo34 | (injection eo34 with f1_ f2_ f3_; have f4_ := f1_.symm; have f5_ := f3_.symm; clear f1_ f2_ f3_; subst f4_; subst f5_))
                        refine hK.out _ _ (((HB.out.cell (World.block_lt_of_cell? w _ hw54003_0)).trans hw54003_0)) (fun hHeld => ?_)
                        clear hK K
                        refine norm_ (a' := ?_) ?_ ?_
                        rotate_left
                        · show Act.put _ (some 54) _ = _
                          simp only [Act.put, List.setIfInBounds_toArray, List.set_cons_zero, List.set_cons_succ, i64_w, i32_w]
                          rfl
                        refine pure_ (i := 16) (N := some 55) (v := ?_) (a' := ?_) #[true, true, true, true, true, true, true, true, true, true, true, true, true, true, true, true, true, true, false] rfl rfl (any_of HT_.out (by kernel_rfl)) (fun _ _ _ h => h) (Or.inl ⟨by rfl, ?_⟩) ?_ ?_
                        rotate_left
                        · intro w'
                          go_simp
                          with_reducible rfl
                        rotate_left
                        · simp only [Act.put, List.setIfInBounds_toArray, List.set_cons_zero, List.set_cons_succ, i64_w, i32_w]
                          rfl
                        exact norm_ (by simp only [putAll, Act.put, List.setIfInBounds_toArray, List.set_cons_zero, List.set_cons_succ]) (hCont (v54005, .slice Ao34 y54008.length co34, gb54011) _ ⟨hHeld, (Kd.R_ext HO54010.out), (Kd.S_ext (Kd.S_mono HO_4.out (fun _ hk => ⟨hk.2, hk.1⟩))), (blk_ext BK54011.out), GW54011.out, GE54011.out, (below_extB HB.out)⟩)
                    · skip
                      refine box_step ?hg (N := 7) ?hd (cs := #[.int .i64 0, .slice none 0 0]) (t := 57) ?hr ?_; (case hd => rfl); (case hg => rfl); (case hr => first | (go_simp; done) | (go_simp; rfl))
                      intro gb54011 hg w30 hbox hb
                      have n0_ := Aside0.mk (Kd.S_below (Kd.S_elderB (Kd.S_ext HO_4.out) gb54011 (Nat.le_of_eq hg.symm)) hb)
                      have n1_ := Aside0.mk (below_step (below_ext HB.out) hb)
                      have n2_ := Aside0.mk (hbox)
                      have n3_ := Aside0.mk ((by rw [hg]; exact (below_size (below_ext HB.out)) : w.heap.size ≤ gb54011))
                      have n4_ := Aside0.mk ((by rw [hg]; exact (below_size (below_ext HB.out)) : w.heap.size ≤ gb54011))
                      clear HO_4
                      clear HB
                      have HO_4 := n0_
                      have HB := n1_
                      have BK54011 := n2_
                      have GW54011 := n3_
                      have GE54011 := n4_; have GI54011 := GE_.mk GE54011.out
                      clear n0_ n1_ n2_ n3_ n4_
                      clear hb hbox hg
                      refine hK.out _ _ (((HB.out.cell (World.block_lt_of_cell? w _ hw54003_0)).trans hw54003_0)) (fun hHeld => ?_)
                      clear hK K
                      refine norm_ (a' := ?_) ?_ ?_
                      rotate_left
                      · show Act.put _ (some 7) _ = _
                        simp only [Act.put, List.setIfInBounds_toArray, List.set_cons_zero, List.set_cons_succ, i64_w, i32_w]
                        rfl
                      refine one_ (i := 6) (N := some 45) #[true, true, true, true, true, true, true, true, true, true, true, true, true, true, true, false, false, true, false] rfl rfl (one_of HT_.out (by kernel_rfl)) (by decide) (fun K hK => ?_)
                      refine Kd.R_lit_step (Kd.int .u8) _ 5 ?hg (N := 45) ?hd (xs := ([] : List Int)) (inner := []) (ok := fun _ => True) (okp := fun _ => True) ?hr ?hp (fun _ hk => hk) trivial (Below.refl _ _) (Nat.le_refl _) (by simp) ?_; (case hd => rfl); (case hg => rfl); (case hr => first | (go_simp; done) | (go_simp; rfl)); (case hp => exact (Reps.none _ _))
                      intro v54005 w31 ho32 hb hg_ hnew_
                      clear hg_ hnew_
                      (first | rw [← Ny54004.out] at ho32 | (simp only [Int.reduceToNat] at ho32; rw [← Ny54004.out] at ho32))
                      have n0_ := Aside0.mk (Kd.S_elder' (Kd.S_ext HO_4.out) (Kd.R_base ho32) hb)
                      have n1_ := Aside0.mk (Kd.R_lower ho32 (below_size (below_extB HB.out)))
                      have n2_ := Aside0.mk (blk_below (blk_ext BK54011.out) hb)
                      have n3_ := Aside0.mk (below_step (below_extB HB.out) hb)
                      clear HO_4
                      clear BK54011
                      clear HB
                      have HO_4 := n0_
                      have HO54006 := n1_
                      have BK54011 := n2_
                      have HB := n3_
                      clear n0_ n1_ n2_ n3_
                      clear hb ho32
                      refine hK.out _ _ (((HB.out.cell (World.block_lt_of_cell? w _ hw54003_0)).trans hw54003_0)) (fun hHeld => ?_)
                      clear hK K
                      refine norm_ (a' := ?_) ?_ ?_
                      rotate_left
                      · show Act.put _ (some 45) _ = _
                        simp only [Act.put, List.setIfInBounds_toArray, List.set_cons_zero, List.set_cons_succ, i64_w, i32_w]
                        rfl
                      refine one_ (i := 15) (N := some 54) #[true, true, true, true, true, true, true, true, true, true, true, true, true, true, true, true, false, true, false] rfl rfl (one_of HT_.out (by kernel_rfl)) (by decide) (fun K hK => ?_)
                      refine Kd.R_append_rows_step (Kd.int .u8) (w0 := w) w.heap.size (by rfl) (.tmp 45) (.tmp 53) 22 5 (.int .u8 0) 1 rfl Try.underlying22 info5 rfl (by decide) (by omega) v54005 y54004 ((l0.take ((wrap64 ((ji15) + (wrap64 ((wrap64 ((wrap64 (rd l0 x5_1)) * 256)) + (wrap64 (rd l0 (ji5))))))) : Int).toNat).drop ((ji15) : Int).toNat) _ _ _ (fun _ => True) (fun _ => False) rfl rfl ?aO ?aR (fun _ _ h => h) (fun _ h => h.elim) ?aF ?aB ?aS ?aL ?_
                      (case aR => first | (refine rrow_len (show ((l0.take ((wrap64 ((ji15) + (wrap64 ((wrap64 ((wrap64 (rd l0 x5_1)) * 256)) + (wrap64 (rd l0 (ji5))))))) : Int).toNat).drop ((ji15) : Int).toNat).length = ((wrap64 ((ji15) + (wrap64 ((wrap64 ((wrap64 (rd l0 x5_1)) * 256)) + (wrap64 (rd l0 (ji5))))))).toNat - (ji15).toNat) from (by rw [List.length_drop, List.length_take]; have h_ : ((wrap64 ((ji15) + (wrap64 ((wrap64 ((wrap64 (rd l0 x5_1)) * 256)) + (wrap64 (rd l0 (ji5))))))) : Int) ≤ (l0.length : Int) := of_decide_eq_true (by first | (with_reducible assumption) | assumption); omega)) ?_; repeat (first | exact (Kd.C_below HR54007.out HB.out) | (with_reducible refine Kd.C_alloc ?_ _) | (with_reducible refine Kd.C_drewN ?_ _) | (with_reducible refine Kd.C_drew ?_))) | (refine rrow_len (m := ((l0.take ((wrap64 ((ji15) + (wrap64 ((wrap64 ((wrap64 (rd l0 x5_1)) * 256)) + (wrap64 (rd l0 (ji5))))))) : Int).toNat).drop ((ji15) : Int).toNat).length) (by simp only [List.length_drop, List.length_take]) ?_; repeat (first | exact (Kd.C_below HR54007.out HB.out) | (with_reducible refine Kd.C_alloc ?_ _) | (with_reducible refine Kd.C_drewN ?_ _) | (with_reducible refine Kd.C_drew ?_))) | (repeat (first | exact (Kd.C_below HR54007.out HB.out) | (with_reducible refine Kd.C_alloc ?_ _) | (with_reducible refine Kd.C_drewN ?_ _) | (with_reducible refine Kd.C_drew ?_))))
                      (case aB => exact (below_extB HB.out))
                      (case aF => exact (fun _ _ => trivial))
                      (case aO => exact (Kd.R_ext HO54006.out))
                      (case aS => exact (below_size (below_extB HB.out)))
                      (case aL => first | (have := LMc19.out; simp only [List.length_drop, List.length_take] at this ⊢; omega) | (have := LMc19.out; have hlx_ := (show ((l0.take ((wrap64 ((ji15) + (wrap64 ((wrap64 ((wrap64 (rd l0 x5_1)) * 256)) + (wrap64 (rd l0 (ji5))))))) : Int).toNat).drop ((ji15) : Int).toNat).length = ((wrap64 ((ji15) + (wrap64 ((wrap64 ((wrap64 (rd l0 x5_1)) * 256)) + (wrap64 (rd l0 (ji5))))))).toNat - (ji15).toNat) from (by rw [List.length_drop, List.length_take]; have h_ : ((wrap64 ((ji15) + (wrap64 ((wrap64 ((wrap64 (rd l0 x5_1)) * 256)) + (wrap64 (rd l0 (ji5))))))) : Int) ≤ (l0.length : Int) := of_decide_eq_true (by first | (with_reducible assumption) | assumption); omega)); omega))
                      intro v54009 w33 ho hb hg hat
                      rw [← Ny54008.out] at ho
                      have n0_ := Aside0.mk (Kd.S_after (ok := (fun k_ => k_ ≠ gb54011)) (Kd.S_ext (Kd.S_mono HO_4.out (fun _ hk => ⟨hk.1.2, hk.2⟩))) hg hat)
                      have n1_ := Aside0.mk (blk_grown (g := gb54011) (o := .cells #[.int .i64 0, .slice none 0 0] 57 (0, 0)) (blk_ext BK54011.out) hg (Kd.R_ne HO54006.out BK54011.out (by decide)))
                      have n2_ := Aside0.mk (hb)
                      have n3_ := Aside0.mk (ho)
                      clear HO_4
                      clear BK54011
                      clear HB
                      clear HO54006
                      have HO_4 := n0_
                      have BK54011 := n1_
                      have HB := n2_
                      have HO54010 := n3_
                      clear n0_ n1_ n2_ n3_
                      clear ho hb hg hat
                      obtain ⟨Ao34, co34, eo34⟩ := Kd.R_slice HO54010.out
                      (first | subst eo34 | (injection eo34 with f1_ f2_ f3_; have f4_ := f1_.symm; have f5_ := f3_.symm; clear f1_ f2_ f3_; subst f4_; subst f5_))
                      refine hK.out _ _ (((HB.out.cell (World.block_lt_of_cell? w _ hw54003_0)).trans hw54003_0)) (fun hHeld => ?_)
                      clear hK K
                      refine norm_ (a' := ?_) ?_ ?_
                      rotate_left
                      · show Act.put _ (some 54) _ = _
                        simp only [Act.put, List.setIfInBounds_toArray, List.set_cons_zero, List.set_cons_succ, i64_w, i32_w]
                        rfl
                      refine pure_ (i := 16) (N := some 55) (v := ?_) (a' := ?_) #[true, true, true, true, true, true, true, true, true, true, true, true, true, true, true, true, true, true, false] rfl rfl (any_of HT_.out (by kernel_rfl)) (fun _ _ _ h => h) (Or.inl ⟨by rfl, ?_⟩) ?_ ?_
                      rotate_left
                      · intro w'
                        go_simp
                        with_reducible rfl
                      rotate_left
                      · simp only [Act.put, List.setIfInBounds_toArray, List.set_cons_zero, List.set_cons_succ, i64_w, i32_w]
                        rfl
                      exact norm_ (by simp only [putAll, Act.put, List.setIfInBounds_toArray, List.set_cons_zero, List.set_cons_succ]) (hCont (v54005, .slice Ao34 y54008.length co34, gb54011) _ ⟨hHeld, (Kd.R_ext HO54010.out), (Kd.S_ext (Kd.S_mono HO_4.out (fun _ hk => ⟨hk.2, hk.1⟩))), (blk_ext BK54011.out), GW54011.out, GE54011.out, (below_extB HB.out)⟩)
                  rintro ⟨v54005, v54009, gb54011⟩ w35 ⟨hS_, h0_, h1_, h2_, h3_, h4_, h5_⟩
                  have n0_ : Aside0 (Kd.R (Kd.int .u8) 5 w35 w.heap.size (fun _ => True) v54009 y54008) := ⟨h0_⟩
                  have n1_ : Aside0 (Kd.S k57 57 w35 w.heap.size (fun k_ => some k_ ≠ (v54009 : Value).ownBlock ∧ k_ ≠ gb54011) u4 x4_1) := ⟨h1_⟩
                  have n2_ : Aside0 (w35.heap[gb54011]? = some (.cells #[.int .i64 0, .slice none 0 0] 57 (0, 0))) := ⟨h2_⟩
                  have n3_ : Aside0 (w.heap.size ≤ gb54011) := ⟨h3_⟩
                  have n4_ : Aside0 (w.heap.size ≤ gb54011) := ⟨h4_⟩
                  have n5_ : Aside0 (Below w.heap.size w w35) := ⟨h5_⟩
                  clear HO_4
                  clear HB
                  clear h0_ h1_ h2_ h3_ h4_ h5_
                  have HO54010 := n0_
                  have HO_4 := n1_
                  have BK54011 := n2_
                  have GW54011 := n3_
                  have GE54011 := n4_; have GI54011 := GE_.mk GE54011.out
                  have HB := n5_
                  clear n0_ n1_ n2_ n3_ n4_ n5_
                  have hHeld : w35.cell? (ad54001.add ((ji12)).toNat) = some (.int .u8 (rd l0 (ji12))) := hS_
                  obtain ⟨Ao36, co36, eo36⟩ := Kd.R_slice HO54010.out
                  (first | subst eo36 | (injection eo36 with f1_ f2_ f3_; have f4_ := f1_.symm; have f5_ := f3_.symm; clear f1_ f2_ f3_; subst f4_; subst f5_))
                  refine norm_ (a' := ?_) ?_ ?_
                  rotate_left
                  · simp only [putAll, Act.put, List.setIfInBounds_toArray, List.set_cons_zero, List.set_cons_succ]
                    rfl
                  refine one_ (i := 18) (N := none) #[true, true, true, true, true, true, true, true, true, true, true, true, true, true, true, true, true, true, true] rfl rfl (one_of HT_.out (by kernel_rfl)) (by decide) (fun K hK => ?_)
                  have hs37 : w35.cell? ⟨gb54011, 0, none⟩ = some (.int .i64 0) := (blk_cell BK54011.out 0).trans rfl
                  have hfs37 := blk_frozen BK54011.out 0
                  have hs38 : w35.cell? ⟨gb54011, 1, none⟩ = some (.slice none 0 0) := (blk_cell BK54011.out 1).trans rfl
                  have hfs38 := blk_frozen BK54011.out 1
                  refine skip_ (w1 := ?_) (by rfl) rfl ?_ ?_
                  rotate_left
                  · go_simp
                    rfl
                  refine hK.out _ _ (((cell_far (p := ⟨gb54011, _, none⟩) (by first | exact Nat.ne_of_lt (Nat.lt_of_lt_of_le (by have := World.block_lt_of_cell? _ _ hw54003_0; first | rwa [add_block] at this | exact this) GW54011.out) | (rw [add_block]; exact Nat.ne_of_lt (Nat.lt_of_lt_of_le (by have := World.block_lt_of_cell? _ _ hw54003_0; first | rwa [add_block] at this | exact this) GW54011.out)) | (show (Addr.add _ _).block ≠ _; rw [add_block]; exact Nat.ne_of_lt (Nat.lt_of_lt_of_le (by have := World.block_lt_of_cell? _ _ hw54003_0; first | rwa [add_block] at this | exact this) GW54011.out)) | (dsimp only; exact Nat.ne_of_lt (Nat.lt_of_lt_of_le (by have := World.block_lt_of_cell? _ _ hw54003_0; first | rwa [add_block] at this | exact this) GW54011.out))) _).trans (((cell_far (p := ⟨gb54011, _, none⟩) (by first | exact Nat.ne_of_lt (Nat.lt_of_lt_of_le (by have := World.block_lt_of_cell? _ _ hw54003_0; first | rwa [add_block] at this | exact this) GW54011.out) | (rw [add_block]; exact Nat.ne_of_lt (Nat.lt_of_lt_of_le (by have := World.block_lt_of_cell? _ _ hw54003_0; first | rwa [add_block] at this | exact this) GW54011.out)) | (show (Addr.add _ _).block ≠ _; rw [add_block]; exact Nat.ne_of_lt (Nat.lt_of_lt_of_le (by have := World.block_lt_of_cell? _ _ hw54003_0; first | rwa [add_block] at this | exact this) GW54011.out)) | (dsimp only; exact Nat.ne_of_lt (Nat.lt_of_lt_of_le (by have := World.block_lt_of_cell? _ _ hw54003_0; first | rwa [add_block] at this | exact this) GW54011.out))) _).trans (hHeld))))) (fun hHeld => ?_)
                  clear hK K
                  refine done_ (done_of HT_.out (by kernel_rfl)) ?_
                  have hcz39_0 : w35.cell? ⟨gb54011, 0, none⟩ = some (.int .i64 0) := (blk_cell BK54011.out 0).trans rfl
                  have hcz39_1 : w35.cell? ⟨gb54011, 1, none⟩ = some (.slice none 0 0) := (blk_cell BK54011.out 1).trans rfl
                  have hfz39_0 := blk_frozen BK54011.out 0
                  have hfz39_1 := blk_frozen BK54011.out 1
                  try go_wp2_with (first | ((with_reducible refine gate_callee (f := 52) rfl ?_); refine goesL_ (some 58) rfl rfl Try.func52 (by kernel_rfl) rfl #[.agg #[.int .i64 (wrap64 (rd l0 (ji12))), .slice Ao36 y54008.length co36]] rfl (by (try simp only [List.map_toArray, List.map_cons, List.map_nil]); first | done | (simp only [hji12]; rfl) | rfl | (simp only [List.length_drop, List.length_take]; rfl)) ?_; (with_reducible refine (customsref33_Encode.calls kj7 (wrap64 (rd l0 (ji12))) _ _ y54008 t54012 t54015 _ ?side1 ?side2 A20.out).mono ?_); (case side1 => refine (Kd.R_reads' (e := 5) (base := w.heap.size) (ok := fun k_ => True) (n := y54008.length) (c := co36) ?_).2.2; exact (Kd.R_ext ((Kd.R_mono (Kd.R_far (p := ⟨gb54011, 1, none⟩) (Kd.R_far (p := ⟨gb54011, 0, none⟩) (Kd.R_types HO54010.out BK54011.out (by decide)) (fun _ hk => hk.2) (.int .i64 (wrap64 (rd l0 (ji12))))) (fun _ hk => hk.2) (.slice Ao36 y54008.length co36)) (fun _ h_ => h_.1))))); (case side2 => exact (Kd.R_reads' HO54010.out).2.1); rintro e w40 ⟨v54013, rfl, ho0, hb⟩; refine ⟨_, rfl, ?_⟩; have n0_ := Aside0.mk (Kd.S_elder' (Kd.S_ext ((Kd.S_mono (Kd.S_far (p := ⟨gb54011, 1, none⟩) (Kd.S_far (p := ⟨gb54011, 0, none⟩) (Kd.S_mono HO_4.out (fun k_ hk => (⟨hk, hk.2⟩ : _ ∧ k_ ≠ gb54011))) (fun _ hk => hk.2) (.int .i64 (wrap64 (rd l0 (ji12))))) (fun _ hk => hk.2) (.slice Ao36 y54008.length co36)) (fun _ h_ => h_.1)))) (Kd.R_base ho0) hb); have n1_ := Aside0.mk (Kd.R_elder' (Kd.R_ext ((Kd.R_mono (Kd.R_far (p := ⟨gb54011, 1, none⟩) (Kd.R_far (p := ⟨gb54011, 0, none⟩) (Kd.R_types HO54010.out BK54011.out (by decide)) (fun _ hk => hk.2) (.int .i64 (wrap64 (rd l0 (ji12))))) (fun _ hk => hk.2) (.slice Ao36 y54008.length co36)) (fun _ h_ => h_.1)))) (Kd.R_base ho0) hb); have n2_ := Aside0.mk (Kd.R_lower (Kd.R_new' ho0 (Kd.R_lt (Kd.R_ext ((Kd.R_mono (Kd.R_far (p := ⟨gb54011, 1, none⟩) (Kd.R_far (p := ⟨gb54011, 0, none⟩) (Kd.R_types HO54010.out BK54011.out (by decide)) (fun _ hk => hk.2) (.int .i64 (wrap64 (rd l0 (ji12))))) (fun _ hk => hk.2) (.slice Ao36 y54008.length co36)) (fun _ h_ => h_.1)))))) (below_size (below_extB HB.out))); have n3_ := Aside0.mk (blk_below (g := gb54011) (o := .cells #[.int .i64 (wrap64 (rd l0 (ji12))), .slice Ao36 y54008.length co36] 57 (0, 0)) (by (with_reducible repeat (first | refine blk_drewN ?_ _ | refine blk_drew ?_ | refine blk_alloc ?_ _)); refine blk_put (cs := #[.int .i64 (wrap64 (rd l0 (ji12))), .slice none 0 0]) ?_ 1 _ rfl; (with_reducible repeat (first | refine blk_drewN ?_ _ | refine blk_drew ?_ | refine blk_alloc ?_ _)); refine blk_put (cs := #[.int .i64 0, .slice none 0 0]) ?_ 0 _ rfl; exact blk_ext BK54011.out) hb); have n4_ := Aside0.mk (below_step (below_extB HB.out) hb); clear HO_4; clear HO54010; clear BK54011; clear HB; have HO_4 := n0_; have HO54010 := n1_; have HO54014 := n2_; have BK54011 := n3_; have HB := n4_; clear n0_ n1_ n2_ n3_ n4_; (try clear hb); (try clear hb2); (try clear hk); (try clear hi); (try clear ho0); obtain ⟨i041, hi041, _, hsz41, _⟩ := info_parts info5; obtain ⟨A41, hcut41, hA41, hC41⟩ := print_mid_of (P := Try.prog) (Value.int .u8) 0 22 5 .i64 .i64 Try.underlying22 hi041 hsz41 (some ad54001) c0 l0 x5_1 (wrap64 ((wrap64 (x5_1 + 9)) + (wrap64 ((wrap64 ((wrap64 (rd l0 x5_1)) * 256)) + (wrap64 (rd l0 (ji5))))))) (of_decide_eq_true (by first | (with_reducible assumption) | assumption)) (by first | omega | exact of_decide_eq_true (by first | (with_reducible assumption) | assumption)) (of_decide_eq_true (by first | (with_reducible assumption) | assumption)) HC0.out; have HR54016 := Aside0.mk (Kd.C_of_reads (h1 := fun _ => rfl) (hA41 _ (Kd.reads_of_C HR0.out))); have HC54016 := Aside0.mk hC41; clear hA41 hC41 hi041 hsz41; obtain ⟨Ao42, co42, eo42⟩ := Kd.R_slice HO54014.out; subst eo42) | (go_at_call 21; refine calls_of_args (args' := #[.slice Ao42 t54012.length co42, .slice A41 ((l0.take ((wrap64 ((wrap64 (x5_1 + 9)) + (wrap64 ((wrap64 ((wrap64 (rd l0 x5_1)) * 256)) + (wrap64 (rd l0 (ji5))))))) : Int).toNat).drop (x5_1 : Int).toNat).length (c0 - x5_1.toNat)]) (by first | rfl | (rw [← cut_len l0 x5_1 (wrap64 ((wrap64 (x5_1 + 9)) + (wrap64 ((wrap64 ((wrap64 (rd l0 x5_1)) * 256)) + (wrap64 (rd l0 (ji5))))))) (by assumption)]; done) | (simp only [List.length_take, List.length_drop]; done) | (rw [show ((l0.take ((wrap64 ((wrap64 (x5_1 + 9)) + (wrap64 ((wrap64 ((wrap64 (rd l0 x5_1)) * 256)) + (wrap64 (rd l0 (ji5))))))) : Int).toNat).drop (x5_1 : Int).toNat).length = ((wrap64 ((wrap64 (x5_1 + 9)) + (wrap64 ((wrap64 ((wrap64 (rd l0 x5_1)) * 256)) + (wrap64 (rd l0 (ji5))))))).toNat - x5_1.toNat) from (by rw [List.length_drop, List.length_take]; have h_ : ((wrap64 ((wrap64 (x5_1 + 9)) + (wrap64 ((wrap64 ((wrap64 (rd l0 x5_1)) * 256)) + (wrap64 (rd l0 (ji5))))))) : Int) ≤ (l0.length : Int) := of_decide_eq_true (by first | (with_reducible assumption) | assumption); omega)]; simp only [List.length_take, List.length_drop])) ?_; (with_reducible refine (customsref33_SameBytes.calls _ _ t54012 _ _ ((l0.take ((wrap64 ((wrap64 (x5_1 + 9)) + (wrap64 ((wrap64 ((wrap64 (rd l0 x5_1)) * 256)) + (wrap64 (rd l0 (ji5))))))) : Int).toNat).drop (x5_1 : Int).toNat) true _ ?side1 ?side2 ?side3 ?side4 A25.out).mono ?_); (case side1 => exact Kd.C_ext (Kd.R_reads' HO54014.out).2.2); (case side2 => exact (Kd.R_reads' HO54014.out).2.1); (case side3 => repeat (first | exact (Kd.C_below HR54016.out HB.out) | (with_reducible refine Kd.C_alloc ?_ _) | (with_reducible refine Kd.C_drewN ?_ _) | (with_reducible refine Kd.C_drew ?_))); (case side4 => exact HC54016.out); rintro e w' ⟨rfl, ⟨nd, rfl⟩⟩; have hcz43_0 : w40.cell? ⟨gb54011, 0, none⟩ = some (.int .i64 (wrap64 (rd l0 (ji12)))) := (blk_cell BK54011.out 0).trans rfl; have hcz43_1 : w40.cell? ⟨gb54011, 1, none⟩ = some (.slice Ao36 y54008.length co36) := (blk_cell BK54011.out 1).trans rfl; have hfz43_0 := blk_frozen BK54011.out 0; have hfz43_1 := blk_frozen BK54011.out 1) | ((with_reducible refine gate_builtin (b := .append) (xs := #[.tmp 75, .tmp 77]) rfl ?_); at_builtin; refine Kd.S_append k57 (w0 := w) w.heap.size rfl (.tmp 75) (.tmp 77) 60 57 (.agg #[(.int .i64 0), (.slice none 0 0)]) 32 rfl Try.underlying60 info57 rfl (by decide) (by omega) u4 x4_1 (⟨wrap64 (rd l0 (ji12)), y54008⟩ : S57) [.int .i64 (wrap64 (rd l0 (ji12))), .slice Ao36 y54008.length co36] (fun k_ => some k_ ≠ (.slice Ao42 t54012.length co42 : Value).ownBlock ∧ k_ ≠ gb54011) (fun k_ => some k_ = (.slice Ao36 y54008.length co36 : Value).ownBlock) rfl rfl ?aP (fun k_ hk_ => ((Kd.R_mono (ok' := fun k_ => ((fun k_ => some k_ ≠ (.slice Ao42 t54012.length co42 : Value).ownBlock ∧ k_ ≠ gb54011)) k_ ∧ some k_ ≠ (u4 : Value).ownBlock) (Kd.R_types (Kd.R_apart' (HO54010.out) (Kd.S_typed HO_4.out) (by decide)) BK54011.out (by decide)) (fun k_ hk => ⟨⟨hk.1.1.2, hk.2⟩, hk.1.2⟩))).1 k_ hk_.symm) ?aF ?aO ?aB ?aS ?aL ?_; (case aP => exact k57_mkM _ _ _ (⟨wrap64 (rd l0 (ji12)), y54008⟩ : S57) (Kd.R_mono (Kd.R_tight rfl (Kd.R_mono (ok' := fun k_ => ((fun k_ => some k_ ≠ (.slice Ao42 t54012.length co42 : Value).ownBlock ∧ k_ ≠ gb54011)) k_ ∧ some k_ ≠ (u4 : Value).ownBlock) (Kd.R_types (Kd.R_apart' (HO54010.out) (Kd.S_typed HO_4.out) (by decide)) BK54011.out (by decide)) (fun k_ hk => ⟨⟨hk.1.1.2, hk.2⟩, hk.1.2⟩))) (fun _ h_ => h_))); (case aB => exact (below_extB HB.out)); (case aF => exact (fun k_ hk => ⟨Kd.fresh' (Kd.R_lt (Kd.R_ext HO54014.out)) k_ hk, Kd.freshB (g := gb54011) (o := .cells #[.int .i64 (wrap64 (rd l0 (ji12))), .slice Ao36 y54008.length co36] 57 (0, 0)) (blk_ext BK54011.out) k_ hk⟩)); (case aO => exact (Kd.S_ext (Kd.S_mono HO_4.out (fun k_ hk => ⟨⟨hk.2, hk.1.2⟩, fun e_ => hk.1.1 e_⟩)))); (case aS => exact (below_size (below_extB HB.out))); (case aL => have := LMc27.out; omega); intro v54019 w44 ho hb hg hat; rw [← Ny54018.out] at ho; have n0_ := Aside0.mk (blk_grown (g := gb54011) (o := .cells #[.int .i64 (wrap64 (rd l0 (ji12))), .slice Ao36 y54008.length co36] 57 (0, 0)) (blk_ext BK54011.out) hg (Kd.S_away HO_4.out (fun _ hk => hk.1.2))); have n1_ := Aside0.mk (Kd.R_over' (Kd.R_ext HO54014.out) (Kd.S_typed (Kd.S_ext HO_4.out)) (by decide) hg); have n2_ := Aside0.mk (hb); have n3_ := Aside0.mk (ho); clear BK54011; clear HO54014; clear HB; clear HO_4; clear HO54010; have BK54011 := n0_; have HO54014 := n1_; have HB := n2_; have HO54020 := n3_; clear n0_ n1_ n2_ n3_; clear ho hb hg hat))
                  go_roundg kj7
                  case measure => have := HK1.out; have := HJ7.out; omega
                  case rel => exact ⟨(y54018), (wrap64 ((wrap64 (x5_1 + 9)) + (wrap64 ((wrap64 ((wrap64 (rd l0 x5_1)) * 256)) + (wrap64 (rd l0 (ji5))))))), (by first | rfl | (simp; done) | (simp only [← hji5] <;> (first | rfl | simp)) | (simp [*]; done)), H', ⟨by have := HK1.out; have := HJ7.out; omega⟩, ⟨Kd.S_ext (Kd.S_mono HO54020.out (fun _ hk => trivial))⟩, ⟨below_extB HB.out⟩⟩
                · replace c26 := Bool.eq_false_iff.mpr c26
                  subst c26
                  have H1 : (some (x4_1, x5_1)) = some (r1, r2) := by rw [if_neg (show ¬ (false = true) by decide)] at H; exact H
                  clear H
                  have H := H1
                  clear H1
                  simp only [Option.some.injEq, Prod.mk.injEq] at H
                  obtain ⟨rfl, rfl⟩ := H
                  try go_wp2
                  have n0_ := Aside0.mk (Kd.S_drew HO_4.out)
                  have n1_ := Aside0.mk (below_drew1 HB.out)
                  clear HO_4
                  clear HB
                  have HO_4 := n0_
                  have HB := n1_
                  clear n0_ n1_
                  have p54003 : 0 ≤ ((ji12) : Int) := of_decide_eq_true (by first | (with_reducible assumption) | assumption)
                  have q54003 : (ji12) < (l0.length : Int) := of_decide_eq_true (by first | (with_reducible assumption) | assumption)
                  obtain ⟨ad54003, e54003, hx54003_0⟩ := Kd.at_int HR0.out (ji12) p54003 q54003
                  have hw54003_0 := hx54003_0
                  obtain rfl : ad54001 = ad54003 := (by injection e54003)
                  replace hx54003_0 := (HB.out.cell (World.block_lt_of_cell? w _ hx54003_0)).trans hx54003_0
                  replace p54003 := eq_true p54003
                  replace q54003 := eq_true q54003
                  obtain ⟨i046, hi046, _, hsz46, _⟩ := info_parts info5
                  obtain ⟨A46, hcut46, hA46, hC46⟩ := print_mid_of (P := Try.prog) (Value.int .u8) 0 22 5 .i64 .i64 Try.underlying22 hi046 hsz46 (some ad54001) c0 l0 (ji15) (wrap64 ((ji15) + (wrap64 ((wrap64 ((wrap64 (rd l0 x5_1)) * 256)) + (wrap64 (rd l0 (ji5))))))) (of_decide_eq_true (by first | (with_reducible assumption) | assumption)) (by first | omega | exact of_decide_eq_true (by first | (with_reducible assumption) | assumption)) (of_decide_eq_true (by first | (with_reducible assumption) | assumption)) HC0.out
                  have HR54007 := Aside0.mk (Kd.C_of_reads (h1 := fun _ => rfl) (hA46 _ (Kd.reads_of_C HR0.out)))
                  have HC54007 := Aside0.mk hC46
                  clear hA46 hC46 hi046 hsz46
                  refine start_ (n := 19) (S := fun w' => w'.cell? (ad54001.add ((ji12)).toNat) = some (.int .u8 (rd l0 (ji12)))) (ds := []) #[false, false, false, false, false, false, false, false, false, false, false, false, false, false, false, false, false, false, false] (by kernel_rfl) rfl rfl (((HB.out.cell (World.block_lt_of_cell? w _ hw54003_0)).trans hw54003_0)) (fun hHeld => ?_); refine with_tabW customsref33_Scan.tab6 customsref33_Scan.bits6 (fun HT_ HW_ => ?_)
                  generalize wc.drew = w45 at HO_4 HB HR54007 hx54003_0 hHeld ⊢
                  refine pure_ (i := 0) (N := some 39) (v := ?_) (a' := ?_) #[true, false, false, false, false, false, false, false, false, false, false, false, false, false, false, false, false, false, false] rfl rfl (any_of HT_.out (by kernel_rfl)) (fun _ _ _ h => h) (Or.inl ⟨by rfl, ?_⟩) ?_ ?_
                  rotate_left
                  · intro w'
                    go_simp
                    with_reducible rfl
                  rotate_left
                  · simp only [Act.put, List.setIfInBounds_toArray, List.set_cons_zero, List.set_cons_succ, i64_w, i32_w]
                    rfl
                  refine pure_ (i := 1) (N := some 40) (v := ?_) (a' := ?_) #[true, true, false, false, false, false, false, false, false, false, false, false, false, false, false, false, false, false, false] rfl rfl (any_of HT_.out (by kernel_rfl)) (fun _ _ _ h => h) (Or.inl ⟨by rfl, ?_⟩) ?_ ?_
                  rotate_left
                  · intro w'
                    go_simp
                    with_reducible rfl
                  rotate_left
                  · simp only [Act.put, List.setIfInBounds_toArray, List.set_cons_zero, List.set_cons_succ, i64_w, i32_w]
                    rfl
                  refine pure_ (i := 2) (N := some 41) (v := ?_) (a' := ?_) #[true, true, true, false, false, false, false, false, false, false, false, false, false, false, false, false, false, false, false] rfl rfl (any_of HT_.out (by kernel_rfl)) (fun _ _ _ h => h) (Or.inl ⟨by rfl, ?_⟩) ?_ ?_
                  rotate_left
                  · intro w'
                    go_simp
                    with_reducible rfl
                  rotate_left
                  · simp only [Act.put, List.setIfInBounds_toArray, List.set_cons_zero, List.set_cons_succ, i64_w, i32_w]
                    rfl
                  refine pure_ (i := 3) (N := some 42) (v := ?_) (a' := ?_) #[true, true, true, true, false, false, false, false, false, false, false, false, false, false, false, false, false, false, false] rfl rfl (any_of HT_.out (by kernel_rfl)) (fun _ _ _ h => h) (Or.inl ⟨by rfl, ?_⟩) ?_ ?_
                  rotate_left
                  · intro w'
                    go_simp
                    with_reducible rfl
                  rotate_left
                  · simp only [Act.put, List.setIfInBounds_toArray, List.set_cons_zero, List.set_cons_succ, i64_w, i32_w]
                    rfl
                  refine pure_ (i := 7) (N := some 46) (v := ?_) (a' := ?_) #[true, true, true, true, false, false, false, true, false, false, false, false, false, false, false, false, false, false, false] rfl rfl (any_of HT_.out (by kernel_rfl)) (fun _ _ _ h => h) (Or.inl ⟨by rfl, ?_⟩) ?_ ?_
                  rotate_left
                  · intro w'
                    go_simp
                    with_reducible rfl
                  rotate_left
                  · simp only [Act.put, List.setIfInBounds_toArray, List.set_cons_zero, List.set_cons_succ, i64_w, i32_w]
                    rfl
                  refine pure_ (i := 8) (N := some 47) (v := ?_) (a' := ?_) #[true, true, true, true, false, false, false, true, true, false, false, false, false, false, false, false, false, false, false] rfl rfl (any_of HT_.out (by kernel_rfl)) (fun _ _ _ h => h) (Or.inl ⟨by rfl, ?_⟩) ?_ ?_
                  rotate_left
                  · intro w'
                    go_simp
                    with_reducible rfl
                  rotate_left
                  · simp only [Act.put, List.setIfInBounds_toArray, List.set_cons_zero, List.set_cons_succ, i64_w, i32_w]
                    rfl
                  refine pure_ (i := 9) (N := some 48) (v := ?_) (a' := ?_) #[true, true, true, true, false, false, false, true, true, true, false, false, false, false, false, false, false, false, false] rfl rfl (any_of HT_.out (by kernel_rfl)) (fun _ _ _ h => h) (Or.inl ⟨by rfl, ?_⟩) ?_ ?_
                  rotate_left
                  · intro w'
                    go_simp
                    with_reducible rfl
                  rotate_left
                  · simp only [Act.put, List.setIfInBounds_toArray, List.set_cons_zero, List.set_cons_succ, i64_w, i32_w]
                    rfl
                  refine pure_ (i := 10) (N := some 49) (v := ?_) (a' := ?_) #[true, true, true, true, false, false, false, true, true, true, true, false, false, false, false, false, false, false, false] rfl rfl (any_of HT_.out (by kernel_rfl)) (fun _ _ _ h => h) (Or.inl ⟨by rfl, ?_⟩) ?_ ?_
                  rotate_left
                  · intro w'
                    go_simp
                    with_reducible rfl
                  rotate_left
                  · simp only [Act.put, List.setIfInBounds_toArray, List.set_cons_zero, List.set_cons_succ, i64_w, i32_w]
                    rfl
                  refine pure_ (i := 11) (N := some 50) (v := ?_) (a' := ?_) #[true, true, true, true, false, false, false, true, true, true, true, true, false, false, false, false, false, false, false] rfl rfl (any_of HT_.out (by kernel_rfl)) (fun _ _ _ h => h) (Or.inl ⟨by rfl, ?_⟩) ?_ ?_
                  rotate_left
                  · intro w'
                    go_simp
                    with_reducible rfl
                  rotate_left
                  · simp only [Act.put, List.setIfInBounds_toArray, List.set_cons_zero, List.set_cons_succ, i64_w, i32_w]
                    rfl
                  refine pure_ (i := 12) (N := some 51) (v := ?_) (a' := ?_) #[true, true, true, true, false, false, false, true, true, true, true, true, true, false, false, false, false, false, false] rfl rfl (any_of HT_.out (by kernel_rfl)) (fun _ _ _ h => h) (Or.inl ⟨by rfl, ?_⟩) ?_ ?_
                  rotate_left
                  · intro w'
                    go_simp
                    with_reducible rfl
                  rotate_left
                  · simp only [Act.put, List.setIfInBounds_toArray, List.set_cons_zero, List.set_cons_succ, i64_w, i32_w]
                    rfl
                  refine pure_ (i := 13) (N := some 52) (v := ?_) (a' := ?_) #[true, true, true, true, false, false, false, true, true, true, true, true, true, true, false, false, false, false, false] rfl rfl (any_of HT_.out (by kernel_rfl)) (fun _ _ _ h => h) (Or.inl ⟨by rfl, ?_⟩) ?_ ?_
                  rotate_left
                  · intro w'
                    go_simp
                    with_reducible rfl
                  rotate_left
                  · simp only [Act.put, List.setIfInBounds_toArray, List.set_cons_zero, List.set_cons_succ, i64_w, i32_w]
                    rfl
                  refine pure_ (i := 14) (N := some 53) (v := ?_) (a' := ?_) #[true, true, true, true, false, false, false, true, true, true, true, true, true, true, true, false, false, false, false] rfl rfl (any_of HT_.out (by kernel_rfl)) (fun _ _ _ h => h) (Or.inl ⟨by rfl, ?_⟩) ?_ ?_
                  rotate_left
                  · intro w'
                    go_simp
                    with_reducible rfl
                  rotate_left
                  · simp only [Act.put, List.setIfInBounds_toArray, List.set_cons_zero, List.set_cons_succ, i64_w, i32_w]
                    rfl
                  refine take_ (i := 4) (N := some 43) (v := ?_) (a' := ?_) #[true, true, true, true, true, false, false, true, true, true, true, true, true, true, true, false, false, false, false] rfl rfl (take_ofW HT_.out HW_.out (by kernel_rfl)) (fun _ _ _ h => h) (Or.inl ⟨by rfl, ?_⟩) hHeld ?_ ?_
                  rotate_left
                  · intro w' s0
                    go_simp
                    with_reducible rfl
                  rotate_left
                  · simp only [Act.put, List.setIfInBounds_toArray, List.set_cons_zero, List.set_cons_succ, i64_w, i32_w]
                    rfl
                  refine pure_ (i := 5) (N := some 44) (v := ?_) (a' := ?_) #[true, true, true, true, true, true, false, true, true, true, true, true, true, true, true, false, false, false, false] rfl rfl (any_of HT_.out (by kernel_rfl)) (fun _ _ _ h => h) (Or.inl ⟨by rfl, ?_⟩) ?_ ?_
                  rotate_left
                  · intro w'
                    go_simp
                    with_reducible rfl
                  rotate_left
                  · simp only [Act.put, List.setIfInBounds_toArray, List.set_cons_zero, List.set_cons_succ, i64_w, i32_w]
                    rfl
                  refine join_ (σ := Value × Value × Nat) 1 #[true, true, true, true, true, true, true, true, true, true, true, true, true, true, true, true, true, true, false] (fun s_ => [(45, s_.1), (54, s_.2.1), (7, .pointer (some ⟨s_.2.2, 0, none⟩)), (55, .agg #[.int .i64 (wrap64 (rd l0 (ji12))), s_.2.1])]) (fun s_ w' => (w'.cell? (ad54001.add ((ji12)).toNat) = some (.int .u8 (rd l0 (ji12)))) ∧ (Kd.R (Kd.int .u8) 5 w' w.heap.size (fun _ => True) s_.2.1 y54008) ∧ (Kd.S k57 57 w' w.heap.size (fun k_ => some k_ ≠ (s_.2.1 : Value).ownBlock ∧ k_ ≠ s_.2.2) u4 x4_1) ∧ (w'.heap[s_.2.2]? = some (.cells #[.int .i64 0, .slice none 0 0] 57 (0, 0))) ∧ (w.heap.size ≤ s_.2.2) ∧ (w.heap.size ≤ s_.2.2) ∧ (Below w.heap.size w w')) ?_ ?_
                  rotate_left
                  · intro hCont
                    refine two_ (i := 6) (j := 17) (Ni := some 45) (Nj := some 7) #[true, true, true, true, true, true, true, true, true, true, true, true, true, true, true, false, false, false, false] #[true, true, true, true, true, true, false, true, true, true, true, true, true, true, true, false, false, true, false] rfl rfl rfl rfl (two_of HT_.out (by kernel_rfl)) (by decide) (by decide) (fun K hK => ?_) (fun K hK => ?_)
                    · skip
                      refine Kd.R_lit_step (Kd.int .u8) _ 5 ?hg (N := 45) ?hd (xs := ([] : List Int)) (inner := []) (ok := fun _ => True) (okp := fun _ => True) ?hr ?hp (fun _ hk => hk) trivial (Below.refl _ _) (Nat.le_refl _) (by simp) ?_; (case hd => rfl); (case hg => rfl); (case hr => first | (go_simp; done) | (go_simp; rfl)); (case hp => exact (Reps.none _ _))
                      intro v54005 w47 ho48 hb hg_ hnew_
                      clear hg_ hnew_
                      (first | rw [← Ny54004.out] at ho48 | (simp only [Int.reduceToNat] at ho48; rw [← Ny54004.out] at ho48))
                      have n0_ := Aside0.mk (Kd.S_elder' (Kd.S_ext HO_4.out) (Kd.R_base ho48) hb)
                      have n1_ := Aside0.mk (Kd.R_lower ho48 (below_size (below_ext HB.out)))
                      have n2_ := Aside0.mk (below_step (below_ext HB.out) hb)
                      clear HO_4
                      clear HB
                      have HO_4 := n0_
                      have HO54006 := n1_
                      have HB := n2_
                      clear n0_ n1_ n2_
                      clear hb ho48
                      refine hK.out _ _ (((HB.out.cell (World.block_lt_of_cell? w _ hw54003_0)).trans hw54003_0)) (fun hHeld => ?_)
                      clear hK K
                      refine norm_ (a' := ?_) ?_ ?_
                      rotate_left
                      · show Act.put _ (some 45) _ = _
                        simp only [Act.put, List.setIfInBounds_toArray, List.set_cons_zero, List.set_cons_succ, i64_w, i32_w]
                        rfl
                      refine two_ (i := 15) (j := 17) (Ni := some 54) (Nj := some 7) #[true, true, true, true, true, true, true, true, true, true, true, true, true, true, true, true, false, false, false] #[true, true, true, true, true, true, true, true, true, true, true, true, true, true, true, false, false, true, false] rfl rfl rfl rfl (two_of HT_.out (by kernel_rfl)) (by decide) (by decide) (fun K hK => ?_) (fun K hK => ?_)
                      · skip
                        refine Kd.R_append_rows_step (Kd.int .u8) (w0 := w) w.heap.size (by rfl) (.tmp 45) (.tmp 53) 22 5 (.int .u8 0) 1 rfl Try.underlying22 info5 rfl (by decide) (by omega) v54005 y54004 ((l0.take ((wrap64 ((ji15) + (wrap64 ((wrap64 ((wrap64 (rd l0 x5_1)) * 256)) + (wrap64 (rd l0 (ji5))))))) : Int).toNat).drop ((ji15) : Int).toNat) _ _ _ (fun _ => True) (fun _ => False) rfl rfl ?aO ?aR (fun _ _ h => h) (fun _ h => h.elim) ?aF ?aB ?aS ?aL ?_
                        (case aR => first | (refine rrow_len (show ((l0.take ((wrap64 ((ji15) + (wrap64 ((wrap64 ((wrap64 (rd l0 x5_1)) * 256)) + (wrap64 (rd l0 (ji5))))))) : Int).toNat).drop ((ji15) : Int).toNat).length = ((wrap64 ((ji15) + (wrap64 ((wrap64 ((wrap64 (rd l0 x5_1)) * 256)) + (wrap64 (rd l0 (ji5))))))).toNat - (ji15).toNat) from (by rw [List.length_drop, List.length_take]; have h_ : ((wrap64 ((ji15) + (wrap64 ((wrap64 ((wrap64 (rd l0 x5_1)) * 256)) + (wrap64 (rd l0 (ji5))))))) : Int) ≤ (l0.length : Int) := of_decide_eq_true (by first | (with_reducible assumption) | assumption); omega)) ?_; repeat (first | exact (Kd.C_below HR54007.out HB.out) | (with_reducible refine Kd.C_alloc ?_ _) | (with_reducible refine Kd.C_drewN ?_ _) | (with_reducible refine Kd.C_drew ?_))) | (refine rrow_len (m := ((l0.take ((wrap64 ((ji15) + (wrap64 ((wrap64 ((wrap64 (rd l0 x5_1)) * 256)) + (wrap64 (rd l0 (ji5))))))) : Int).toNat).drop ((ji15) : Int).toNat).length) (by simp only [List.length_drop, List.length_take]) ?_; repeat (first | exact (Kd.C_below HR54007.out HB.out) | (with_reducible refine Kd.C_alloc ?_ _) | (with_reducible refine Kd.C_drewN ?_ _) | (with_reducible refine Kd.C_drew ?_))) | (repeat (first | exact (Kd.C_below HR54007.out HB.out) | (with_reducible refine Kd.C_alloc ?_ _) | (with_reducible refine Kd.C_drewN ?_ _) | (with_reducible refine Kd.C_drew ?_))))
                        (case aB => exact (below_ext HB.out))
                        (case aF => exact (fun _ _ => trivial))
                        (case aO => exact (Kd.R_ext HO54006.out))
                        (case aS => exact (below_size (below_ext HB.out)))
                        (case aL => first | (have := LMc19.out; simp only [List.length_drop, List.length_take] at this ⊢; omega) | (have := LMc19.out; have hlx_ := (show ((l0.take ((wrap64 ((ji15) + (wrap64 ((wrap64 ((wrap64 (rd l0 x5_1)) * 256)) + (wrap64 (rd l0 (ji5))))))) : Int).toNat).drop ((ji15) : Int).toNat).length = ((wrap64 ((ji15) + (wrap64 ((wrap64 ((wrap64 (rd l0 x5_1)) * 256)) + (wrap64 (rd l0 (ji5))))))).toNat - (ji15).toNat) from (by rw [List.length_drop, List.length_take]; have h_ : ((wrap64 ((ji15) + (wrap64 ((wrap64 ((wrap64 (rd l0 x5_1)) * 256)) + (wrap64 (rd l0 (ji5))))))) : Int) ≤ (l0.length : Int) := of_decide_eq_true (by first | (with_reducible assumption) | assumption); omega)); omega))
                        intro v54009 w49 ho hb hg hat
                        rw [← Ny54008.out] at ho
                        have n0_ := Aside0.mk (Kd.S_after (ok := (fun _ => True)) (Kd.S_ext HO_4.out) hg hat)
                        have n1_ := Aside0.mk (hb)
                        have n2_ := Aside0.mk (ho)
                        clear HO_4
                        clear HB
                        clear HO54006
                        have HO_4 := n0_
                        have HB := n1_
                        have HO54010 := n2_
                        clear n0_ n1_ n2_
                        clear ho hb hg hat
                        obtain ⟨Ao50, co50, eo50⟩ := Kd.R_slice HO54010.out
                        (first | subst eo50 | (injection eo50 with f1_ f2_ f3_; have f4_ := f1_.symm; have f5_ := f3_.symm; clear f1_ f2_ f3_; subst f4_; subst f5_))
                        refine hK.out _ _ (((HB.out.cell (World.block_lt_of_cell? w _ hw54003_0)).trans hw54003_0)) (fun hHeld => ?_)
                        clear hK K
                        refine norm_ (a' := ?_) ?_ ?_
                        rotate_left
                        · show Act.put _ (some 54) _ = _
                          simp only [Act.put, List.setIfInBounds_toArray, List.set_cons_zero, List.set_cons_succ, i64_w, i32_w]
                          rfl
                        refine pure_ (i := 16) (N := some 55) (v := ?_) (a' := ?_) #[true, true, true, true, true, true, true, true, true, true, true, true, true, true, true, true, true, false, false] rfl rfl (any_of HT_.out (by kernel_rfl)) (fun _ _ _ h => h) (Or.inl ⟨by rfl, ?_⟩) ?_ ?_
                        rotate_left
                        · intro w'
                          go_simp
                          with_reducible rfl
                        rotate_left
                        · simp only [Act.put, List.setIfInBounds_toArray, List.set_cons_zero, List.set_cons_succ, i64_w, i32_w]
                          rfl
                        refine one_ (i := 17) (N := some 7) #[true, true, true, true, true, true, true, true, true, true, true, true, true, true, true, true, true, true, false] rfl rfl (one_of HT_.out (by kernel_rfl)) (by decide) (fun K hK => ?_)
                        refine box_step ?hg (N := 7) ?hd (cs := #[.int .i64 0, .slice none 0 0]) (t := 57) ?hr ?_; (case hd => rfl); (case hg => rfl); (case hr => first | (go_simp; done) | (go_simp; rfl))
                        intro gb54011 hg w51 hbox hb
                        have n0_ := Aside0.mk (Kd.S_below (Kd.S_elderB (Kd.S_ext HO_4.out) gb54011 (Nat.le_of_eq hg.symm)) hb)
                        have n1_ := Aside0.mk (Kd.R_below (Kd.R_ext HO54010.out) hb)
                        have n2_ := Aside0.mk (below_step (below_ext HB.out) hb)
                        have n3_ := Aside0.mk (hbox)
                        have n4_ := Aside0.mk ((by rw [hg]; exact (below_size (below_ext HB.out)) : w.heap.size ≤ gb54011))
                        have n5_ := Aside0.mk ((by rw [hg]; exact (below_size (below_ext HB.out)) : w.heap.size ≤ gb54011))
                        clear HO_4
                        clear HO54010
                        clear HB
                        have HO_4 := n0_
                        have HO54010 := n1_
                        have HB := n2_
                        have BK54011 := n3_
                        have GW54011 := n4_
                        have GE54011 := n5_; have GI54011 := GE_.mk GE54011.out
                        clear n0_ n1_ n2_ n3_ n4_ n5_
                        clear hb hbox hg
                        refine hK.out _ _ (((HB.out.cell (World.block_lt_of_cell? w _ hw54003_0)).trans hw54003_0)) (fun hHeld => ?_)
                        clear hK K
                        refine norm_ (a' := ?_) ?_ ?_
                        rotate_left
                        · show Act.put _ (some 7) _ = _
                          simp only [Act.put, List.setIfInBounds_toArray, List.set_cons_zero, List.set_cons_succ, i64_w, i32_w]
                          rfl
                        exact norm_ (by simp only [putAll, Act.put, List.setIfInBounds_toArray, List.set_cons_zero, List.set_cons_succ]) (hCont (v54005, .slice Ao50 y54008.length co50, gb54011) _ ⟨hHeld, (Kd.R_ext HO54010.out), (Kd.S_ext (Kd.S_mono HO_4.out (fun _ hk => ⟨hk.1.2, hk.2⟩))), (blk_ext BK54011.out), GW54011.out, GE54011.out, (below_extB HB.out)⟩)
                      · skip
                        refine box_step ?hg (N := 7) ?hd (cs := #[.int .i64 0, .slice none 0 0]) (t := 57) ?hr ?_; (case hd => rfl); (case hg => rfl); (case hr => first | (go_simp; done) | (go_simp; rfl))
                        intro gb54011 hg w49 hbox hb
                        have n0_ := Aside0.mk (Kd.S_below (Kd.S_elderB (Kd.S_ext HO_4.out) gb54011 (Nat.le_of_eq hg.symm)) hb)
                        have n1_ := Aside0.mk (Kd.R_below (Kd.R_ext HO54006.out) hb)
                        have n2_ := Aside0.mk (below_step (below_ext HB.out) hb)
                        have n3_ := Aside0.mk (hbox)
                        have n4_ := Aside0.mk ((by rw [hg]; exact (below_size (below_ext HB.out)) : w.heap.size ≤ gb54011))
                        have n5_ := Aside0.mk ((by rw [hg]; exact (below_size (below_ext HB.out)) : w.heap.size ≤ gb54011))
                        clear HO_4
                        clear HO54006
                        clear HB
                        have HO_4 := n0_
                        have HO54006 := n1_
                        have HB := n2_
                        have BK54011 := n3_
                        have GW54011 := n4_
                        have GE54011 := n5_; have GI54011 := GE_.mk GE54011.out
                        clear n0_ n1_ n2_ n3_ n4_ n5_
                        clear hb hbox hg
                        refine hK.out _ _ (((HB.out.cell (World.block_lt_of_cell? w _ hw54003_0)).trans hw54003_0)) (fun hHeld => ?_)
                        clear hK K
                        refine norm_ (a' := ?_) ?_ ?_
                        rotate_left
                        · show Act.put _ (some 7) _ = _
                          simp only [Act.put, List.setIfInBounds_toArray, List.set_cons_zero, List.set_cons_succ, i64_w, i32_w]
                          rfl
                        refine one_ (i := 15) (N := some 54) #[true, true, true, true, true, true, true, true, true, true, true, true, true, true, true, true, false, true, false] rfl rfl (one_of HT_.out (by kernel_rfl)) (by decide) (fun K hK => ?_)
                        refine Kd.R_append_rows_step (Kd.int .u8) (w0 := w) w.heap.size (by rfl) (.tmp 45) (.tmp 53) 22 5 (.int .u8 0) 1 rfl Try.underlying22 info5 rfl (by decide) (by omega) v54005 y54004 ((l0.take ((wrap64 ((ji15) + (wrap64 ((wrap64 ((wrap64 (rd l0 x5_1)) * 256)) + (wrap64 (rd l0 (ji5))))))) : Int).toNat).drop ((ji15) : Int).toNat) _ _ _ (fun _ => True) (fun _ => False) rfl rfl ?aO ?aR (fun _ _ h => h) (fun _ h => h.elim) ?aF ?aB ?aS ?aL ?_
                        (case aR => first | (refine rrow_len (show ((l0.take ((wrap64 ((ji15) + (wrap64 ((wrap64 ((wrap64 (rd l0 x5_1)) * 256)) + (wrap64 (rd l0 (ji5))))))) : Int).toNat).drop ((ji15) : Int).toNat).length = ((wrap64 ((ji15) + (wrap64 ((wrap64 ((wrap64 (rd l0 x5_1)) * 256)) + (wrap64 (rd l0 (ji5))))))).toNat - (ji15).toNat) from (by rw [List.length_drop, List.length_take]; have h_ : ((wrap64 ((ji15) + (wrap64 ((wrap64 ((wrap64 (rd l0 x5_1)) * 256)) + (wrap64 (rd l0 (ji5))))))) : Int) ≤ (l0.length : Int) := of_decide_eq_true (by first | (with_reducible assumption) | assumption); omega)) ?_; repeat (first | exact (Kd.C_below HR54007.out HB.out) | (with_reducible refine Kd.C_alloc ?_ _) | (with_reducible refine Kd.C_drewN ?_ _) | (with_reducible refine Kd.C_drew ?_))) | (refine rrow_len (m := ((l0.take ((wrap64 ((ji15) + (wrap64 ((wrap64 ((wrap64 (rd l0 x5_1)) * 256)) + (wrap64 (rd l0 (ji5))))))) : Int).toNat).drop ((ji15) : Int).toNat).length) (by simp only [List.length_drop, List.length_take]) ?_; repeat (first | exact (Kd.C_below HR54007.out HB.out) | (with_reducible refine Kd.C_alloc ?_ _) | (with_reducible refine Kd.C_drewN ?_ _) | (with_reducible refine Kd.C_drew ?_))) | (repeat (first | exact (Kd.C_below HR54007.out HB.out) | (with_reducible refine Kd.C_alloc ?_ _) | (with_reducible refine Kd.C_drewN ?_ _) | (with_reducible refine Kd.C_drew ?_))))
                        (case aB => exact (below_extB HB.out))
                        (case aF => exact (fun _ _ => trivial))
                        (case aO => exact (Kd.R_ext HO54006.out))
                        (case aS => exact (below_size (below_extB HB.out)))
                        (case aL => first | (have := LMc19.out; simp only [List.length_drop, List.length_take] at this ⊢; omega) | (have := LMc19.out; have hlx_ := (show ((l0.take ((wrap64 ((ji15) + (wrap64 ((wrap64 ((wrap64 (rd l0 x5_1)) * 256)) + (wrap64 (rd l0 (ji5))))))) : Int).toNat).drop ((ji15) : Int).toNat).length = ((wrap64 ((ji15) + (wrap64 ((wrap64 ((wrap64 (rd l0 x5_1)) * 256)) + (wrap64 (rd l0 (ji5))))))).toNat - (ji15).toNat) from (by rw [List.length_drop, List.length_take]; have h_ : ((wrap64 ((ji15) + (wrap64 ((wrap64 ((wrap64 (rd l0 x5_1)) * 256)) + (wrap64 (rd l0 (ji5))))))) : Int) ≤ (l0.length : Int) := of_decide_eq_true (by first | (with_reducible assumption) | assumption); omega)); omega))
                        intro v54009 w50 ho hb hg hat
                        rw [← Ny54008.out] at ho
                        have n0_ := Aside0.mk (Kd.S_after (ok := (fun k_ => k_ ≠ gb54011)) (Kd.S_ext (Kd.S_mono HO_4.out (fun _ hk => ⟨hk.2, hk.1.2⟩))) hg hat)
                        have n1_ := Aside0.mk (blk_grown (g := gb54011) (o := .cells #[.int .i64 0, .slice none 0 0] 57 (0, 0)) (blk_ext BK54011.out) hg (Kd.R_ne HO54006.out BK54011.out (by decide)))
                        have n2_ := Aside0.mk (hb)
                        have n3_ := Aside0.mk (ho)
                        clear HO_4
                        clear BK54011
                        clear HB
                        clear HO54006
                        have HO_4 := n0_
                        have BK54011 := n1_
                        have HB := n2_
                        have HO54010 := n3_
                        clear n0_ n1_ n2_ n3_
                        clear ho hb hg hat
                        obtain ⟨Ao51, co51, eo51⟩ := Kd.R_slice HO54010.out
                        (first | subst eo51 | (injection eo51 with f1_ f2_ f3_; have f4_ := f1_.symm; have f5_ := f3_.symm; clear f1_ f2_ f3_; subst f4_; subst f5_))
                        refine hK.out _ _ (((HB.out.cell (World.block_lt_of_cell? w _ hw54003_0)).trans hw54003_0)) (fun hHeld => ?_)
                        clear hK K
                        refine norm_ (a' := ?_) ?_ ?_
                        rotate_left
                        · show Act.put _ (some 54) _ = _
                          simp only [Act.put, List.setIfInBounds_toArray, List.set_cons_zero, List.set_cons_succ, i64_w, i32_w]
                          rfl
                        refine pure_ (i := 16) (N := some 55) (v := ?_) (a' := ?_) #[true, true, true, true, true, true, true, true, true, true, true, true, true, true, true, true, true, true, false] rfl rfl (any_of HT_.out (by kernel_rfl)) (fun _ _ _ h => h) (Or.inl ⟨by rfl, ?_⟩) ?_ ?_
                        rotate_left
                        · intro w'
                          go_simp
                          with_reducible rfl
                        rotate_left
                        · simp only [Act.put, List.setIfInBounds_toArray, List.set_cons_zero, List.set_cons_succ, i64_w, i32_w]
                          rfl
                        exact norm_ (by simp only [putAll, Act.put, List.setIfInBounds_toArray, List.set_cons_zero, List.set_cons_succ]) (hCont (v54005, .slice Ao51 y54008.length co51, gb54011) _ ⟨hHeld, (Kd.R_ext HO54010.out), (Kd.S_ext (Kd.S_mono HO_4.out (fun _ hk => ⟨hk.2, hk.1⟩))), (blk_ext BK54011.out), GW54011.out, GE54011.out, (below_extB HB.out)⟩)
                    · skip
                      refine box_step ?hg (N := 7) ?hd (cs := #[.int .i64 0, .slice none 0 0]) (t := 57) ?hr ?_; (case hd => rfl); (case hg => rfl); (case hr => first | (go_simp; done) | (go_simp; rfl))
                      intro gb54011 hg w47 hbox hb
                      have n0_ := Aside0.mk (Kd.S_below (Kd.S_elderB (Kd.S_ext HO_4.out) gb54011 (Nat.le_of_eq hg.symm)) hb)
                      have n1_ := Aside0.mk (below_step (below_ext HB.out) hb)
                      have n2_ := Aside0.mk (hbox)
                      have n3_ := Aside0.mk ((by rw [hg]; exact (below_size (below_ext HB.out)) : w.heap.size ≤ gb54011))
                      have n4_ := Aside0.mk ((by rw [hg]; exact (below_size (below_ext HB.out)) : w.heap.size ≤ gb54011))
                      clear HO_4
                      clear HB
                      have HO_4 := n0_
                      have HB := n1_
                      have BK54011 := n2_
                      have GW54011 := n3_
                      have GE54011 := n4_; have GI54011 := GE_.mk GE54011.out
                      clear n0_ n1_ n2_ n3_ n4_
                      clear hb hbox hg
                      refine hK.out _ _ (((HB.out.cell (World.block_lt_of_cell? w _ hw54003_0)).trans hw54003_0)) (fun hHeld => ?_)
                      clear hK K
                      refine norm_ (a' := ?_) ?_ ?_
                      rotate_left
                      · show Act.put _ (some 7) _ = _
                        simp only [Act.put, List.setIfInBounds_toArray, List.set_cons_zero, List.set_cons_succ, i64_w, i32_w]
                        rfl
                      refine one_ (i := 6) (N := some 45) #[true, true, true, true, true, true, true, true, true, true, true, true, true, true, true, false, false, true, false] rfl rfl (one_of HT_.out (by kernel_rfl)) (by decide) (fun K hK => ?_)
                      refine Kd.R_lit_step (Kd.int .u8) _ 5 ?hg (N := 45) ?hd (xs := ([] : List Int)) (inner := []) (ok := fun _ => True) (okp := fun _ => True) ?hr ?hp (fun _ hk => hk) trivial (Below.refl _ _) (Nat.le_refl _) (by simp) ?_; (case hd => rfl); (case hg => rfl); (case hr => first | (go_simp; done) | (go_simp; rfl)); (case hp => exact (Reps.none _ _))
                      intro v54005 w48 ho49 hb hg_ hnew_
                      clear hg_ hnew_
                      (first | rw [← Ny54004.out] at ho49 | (simp only [Int.reduceToNat] at ho49; rw [← Ny54004.out] at ho49))
                      have n0_ := Aside0.mk (Kd.S_elder' (Kd.S_ext HO_4.out) (Kd.R_base ho49) hb)
                      have n1_ := Aside0.mk (Kd.R_lower ho49 (below_size (below_extB HB.out)))
                      have n2_ := Aside0.mk (blk_below (blk_ext BK54011.out) hb)
                      have n3_ := Aside0.mk (below_step (below_extB HB.out) hb)
                      clear HO_4
                      clear BK54011
                      clear HB
                      have HO_4 := n0_
                      have HO54006 := n1_
                      have BK54011 := n2_
                      have HB := n3_
                      clear n0_ n1_ n2_ n3_
                      clear hb ho49
                      refine hK.out _ _ (((HB.out.cell (World.block_lt_of_cell? w _ hw54003_0)).trans hw54003_0)) (fun hHeld => ?_)
                      clear hK K
                      refine norm_ (a' := ?_) ?_ ?_
                      rotate_left
                      · show Act.put _ (some 45) _ = _
                        simp only [Act.put, List.setIfInBounds_toArray, List.set_cons_zero, List.set_cons_succ, i64_w, i32_w]
                        rfl
                      refine one_ (i := 15) (N := some 54) #[true, true, true, true, true, true, true, true, true, true, true, true, true, true, true, true, false, true, false] rfl rfl (one_of HT_.out (by kernel_rfl)) (by decide) (fun K hK => ?_)
                      refine Kd.R_append_rows_step (Kd.int .u8) (w0 := w) w.heap.size (by rfl) (.tmp 45) (.tmp 53) 22 5 (.int .u8 0) 1 rfl Try.underlying22 info5 rfl (by decide) (by omega) v54005 y54004 ((l0.take ((wrap64 ((ji15) + (wrap64 ((wrap64 ((wrap64 (rd l0 x5_1)) * 256)) + (wrap64 (rd l0 (ji5))))))) : Int).toNat).drop ((ji15) : Int).toNat) _ _ _ (fun _ => True) (fun _ => False) rfl rfl ?aO ?aR (fun _ _ h => h) (fun _ h => h.elim) ?aF ?aB ?aS ?aL ?_
                      (case aR => first | (refine rrow_len (show ((l0.take ((wrap64 ((ji15) + (wrap64 ((wrap64 ((wrap64 (rd l0 x5_1)) * 256)) + (wrap64 (rd l0 (ji5))))))) : Int).toNat).drop ((ji15) : Int).toNat).length = ((wrap64 ((ji15) + (wrap64 ((wrap64 ((wrap64 (rd l0 x5_1)) * 256)) + (wrap64 (rd l0 (ji5))))))).toNat - (ji15).toNat) from (by rw [List.length_drop, List.length_take]; have h_ : ((wrap64 ((ji15) + (wrap64 ((wrap64 ((wrap64 (rd l0 x5_1)) * 256)) + (wrap64 (rd l0 (ji5))))))) : Int) ≤ (l0.length : Int) := of_decide_eq_true (by first | (with_reducible assumption) | assumption); omega)) ?_; repeat (first | exact (Kd.C_below HR54007.out HB.out) | (with_reducible refine Kd.C_alloc ?_ _) | (with_reducible refine Kd.C_drewN ?_ _) | (with_reducible refine Kd.C_drew ?_))) | (refine rrow_len (m := ((l0.take ((wrap64 ((ji15) + (wrap64 ((wrap64 ((wrap64 (rd l0 x5_1)) * 256)) + (wrap64 (rd l0 (ji5))))))) : Int).toNat).drop ((ji15) : Int).toNat).length) (by simp only [List.length_drop, List.length_take]) ?_; repeat (first | exact (Kd.C_below HR54007.out HB.out) | (with_reducible refine Kd.C_alloc ?_ _) | (with_reducible refine Kd.C_drewN ?_ _) | (with_reducible refine Kd.C_drew ?_))) | (repeat (first | exact (Kd.C_below HR54007.out HB.out) | (with_reducible refine Kd.C_alloc ?_ _) | (with_reducible refine Kd.C_drewN ?_ _) | (with_reducible refine Kd.C_drew ?_))))
                      (case aB => exact (below_extB HB.out))
                      (case aF => exact (fun _ _ => trivial))
                      (case aO => exact (Kd.R_ext HO54006.out))
                      (case aS => exact (below_size (below_extB HB.out)))
                      (case aL => first | (have := LMc19.out; simp only [List.length_drop, List.length_take] at this ⊢; omega) | (have := LMc19.out; have hlx_ := (show ((l0.take ((wrap64 ((ji15) + (wrap64 ((wrap64 ((wrap64 (rd l0 x5_1)) * 256)) + (wrap64 (rd l0 (ji5))))))) : Int).toNat).drop ((ji15) : Int).toNat).length = ((wrap64 ((ji15) + (wrap64 ((wrap64 ((wrap64 (rd l0 x5_1)) * 256)) + (wrap64 (rd l0 (ji5))))))).toNat - (ji15).toNat) from (by rw [List.length_drop, List.length_take]; have h_ : ((wrap64 ((ji15) + (wrap64 ((wrap64 ((wrap64 (rd l0 x5_1)) * 256)) + (wrap64 (rd l0 (ji5))))))) : Int) ≤ (l0.length : Int) := of_decide_eq_true (by first | (with_reducible assumption) | assumption); omega)); omega))
                      intro v54009 w50 ho hb hg hat
                      rw [← Ny54008.out] at ho
                      have n0_ := Aside0.mk (Kd.S_after (ok := (fun k_ => k_ ≠ gb54011)) (Kd.S_ext (Kd.S_mono HO_4.out (fun _ hk => ⟨hk.1.2, hk.2⟩))) hg hat)
                      have n1_ := Aside0.mk (blk_grown (g := gb54011) (o := .cells #[.int .i64 0, .slice none 0 0] 57 (0, 0)) (blk_ext BK54011.out) hg (Kd.R_ne HO54006.out BK54011.out (by decide)))
                      have n2_ := Aside0.mk (hb)
                      have n3_ := Aside0.mk (ho)
                      clear HO_4
                      clear BK54011
                      clear HB
                      clear HO54006
                      have HO_4 := n0_
                      have BK54011 := n1_
                      have HB := n2_
                      have HO54010 := n3_
                      clear n0_ n1_ n2_ n3_
                      clear ho hb hg hat
                      obtain ⟨Ao51, co51, eo51⟩ := Kd.R_slice HO54010.out
                      (first | subst eo51 | (injection eo51 with f1_ f2_ f3_; have f4_ := f1_.symm; have f5_ := f3_.symm; clear f1_ f2_ f3_; subst f4_; subst f5_))
                      refine hK.out _ _ (((HB.out.cell (World.block_lt_of_cell? w _ hw54003_0)).trans hw54003_0)) (fun hHeld => ?_)
                      clear hK K
                      refine norm_ (a' := ?_) ?_ ?_
                      rotate_left
                      · show Act.put _ (some 54) _ = _
                        simp only [Act.put, List.setIfInBounds_toArray, List.set_cons_zero, List.set_cons_succ, i64_w, i32_w]
                        rfl
                      refine pure_ (i := 16) (N := some 55) (v := ?_) (a' := ?_) #[true, true, true, true, true, true, true, true, true, true, true, true, true, true, true, true, true, true, false] rfl rfl (any_of HT_.out (by kernel_rfl)) (fun _ _ _ h => h) (Or.inl ⟨by rfl, ?_⟩) ?_ ?_
                      rotate_left
                      · intro w'
                        go_simp
                        with_reducible rfl
                      rotate_left
                      · simp only [Act.put, List.setIfInBounds_toArray, List.set_cons_zero, List.set_cons_succ, i64_w, i32_w]
                        rfl
                      exact norm_ (by simp only [putAll, Act.put, List.setIfInBounds_toArray, List.set_cons_zero, List.set_cons_succ]) (hCont (v54005, .slice Ao51 y54008.length co51, gb54011) _ ⟨hHeld, (Kd.R_ext HO54010.out), (Kd.S_ext (Kd.S_mono HO_4.out (fun _ hk => ⟨hk.2, hk.1⟩))), (blk_ext BK54011.out), GW54011.out, GE54011.out, (below_extB HB.out)⟩)
                  rintro ⟨v54005, v54009, gb54011⟩ w52 ⟨hS_, h0_, h1_, h2_, h3_, h4_, h5_⟩
                  have n0_ : Aside0 (Kd.R (Kd.int .u8) 5 w52 w.heap.size (fun _ => True) v54009 y54008) := ⟨h0_⟩
                  have n1_ : Aside0 (Kd.S k57 57 w52 w.heap.size (fun k_ => some k_ ≠ (v54009 : Value).ownBlock ∧ k_ ≠ gb54011) u4 x4_1) := ⟨h1_⟩
                  have n2_ : Aside0 (w52.heap[gb54011]? = some (.cells #[.int .i64 0, .slice none 0 0] 57 (0, 0))) := ⟨h2_⟩
                  have n3_ : Aside0 (w.heap.size ≤ gb54011) := ⟨h3_⟩
                  have n4_ : Aside0 (w.heap.size ≤ gb54011) := ⟨h4_⟩
                  have n5_ : Aside0 (Below w.heap.size w w52) := ⟨h5_⟩
                  clear HO_4
                  clear HB
                  clear h0_ h1_ h2_ h3_ h4_ h5_
                  have HO54010 := n0_
                  have HO_4 := n1_
                  have BK54011 := n2_
                  have GW54011 := n3_
                  have GE54011 := n4_; have GI54011 := GE_.mk GE54011.out
                  have HB := n5_
                  clear n0_ n1_ n2_ n3_ n4_ n5_
                  have hHeld : w52.cell? (ad54001.add ((ji12)).toNat) = some (.int .u8 (rd l0 (ji12))) := hS_
                  obtain ⟨Ao53, co53, eo53⟩ := Kd.R_slice HO54010.out
                  (first | subst eo53 | (injection eo53 with f1_ f2_ f3_; have f4_ := f1_.symm; have f5_ := f3_.symm; clear f1_ f2_ f3_; subst f4_; subst f5_))
                  refine norm_ (a' := ?_) ?_ ?_
                  rotate_left
                  · simp only [putAll, Act.put, List.setIfInBounds_toArray, List.set_cons_zero, List.set_cons_succ]
                    rfl
                  refine one_ (i := 18) (N := none) #[true, true, true, true, true, true, true, true, true, true, true, true, true, true, true, true, true, true, true] rfl rfl (one_of HT_.out (by kernel_rfl)) (by decide) (fun K hK => ?_)
                  have hs54 : w52.cell? ⟨gb54011, 0, none⟩ = some (.int .i64 0) := (blk_cell BK54011.out 0).trans rfl
                  have hfs54 := blk_frozen BK54011.out 0
                  have hs55 : w52.cell? ⟨gb54011, 1, none⟩ = some (.slice none 0 0) := (blk_cell BK54011.out 1).trans rfl
                  have hfs55 := blk_frozen BK54011.out 1
                  refine skip_ (w1 := ?_) (by rfl) rfl ?_ ?_
                  rotate_left
                  · go_simp
                    rfl
                  refine hK.out _ _ (((cell_far (p := ⟨gb54011, _, none⟩) (by first | exact Nat.ne_of_lt (Nat.lt_of_lt_of_le (by have := World.block_lt_of_cell? _ _ hw54003_0; first | rwa [add_block] at this | exact this) GW54011.out) | (rw [add_block]; exact Nat.ne_of_lt (Nat.lt_of_lt_of_le (by have := World.block_lt_of_cell? _ _ hw54003_0; first | rwa [add_block] at this | exact this) GW54011.out)) | (show (Addr.add _ _).block ≠ _; rw [add_block]; exact Nat.ne_of_lt (Nat.lt_of_lt_of_le (by have := World.block_lt_of_cell? _ _ hw54003_0; first | rwa [add_block] at this | exact this) GW54011.out)) | (dsimp only; exact Nat.ne_of_lt (Nat.lt_of_lt_of_le (by have := World.block_lt_of_cell? _ _ hw54003_0; first | rwa [add_block] at this | exact this) GW54011.out))) _).trans (((cell_far (p := ⟨gb54011, _, none⟩) (by first | exact Nat.ne_of_lt (Nat.lt_of_lt_of_le (by have := World.block_lt_of_cell? _ _ hw54003_0; first | rwa [add_block] at this | exact this) GW54011.out) | (rw [add_block]; exact Nat.ne_of_lt (Nat.lt_of_lt_of_le (by have := World.block_lt_of_cell? _ _ hw54003_0; first | rwa [add_block] at this | exact this) GW54011.out)) | (show (Addr.add _ _).block ≠ _; rw [add_block]; exact Nat.ne_of_lt (Nat.lt_of_lt_of_le (by have := World.block_lt_of_cell? _ _ hw54003_0; first | rwa [add_block] at this | exact this) GW54011.out)) | (dsimp only; exact Nat.ne_of_lt (Nat.lt_of_lt_of_le (by have := World.block_lt_of_cell? _ _ hw54003_0; first | rwa [add_block] at this | exact this) GW54011.out))) _).trans (hHeld))))) (fun hHeld => ?_)
                  clear hK K
                  refine done_ (done_of HT_.out (by kernel_rfl)) ?_
                  have hcz56_0 : w52.cell? ⟨gb54011, 0, none⟩ = some (.int .i64 0) := (blk_cell BK54011.out 0).trans rfl
                  have hcz56_1 : w52.cell? ⟨gb54011, 1, none⟩ = some (.slice none 0 0) := (blk_cell BK54011.out 1).trans rfl
                  have hfz56_0 := blk_frozen BK54011.out 0
                  have hfz56_1 := blk_frozen BK54011.out 1
                  try go_wp2_with (first | ((with_reducible refine gate_callee (f := 52) rfl ?_); refine goesL_ (some 58) rfl rfl Try.func52 (by kernel_rfl) rfl #[.agg #[.int .i64 (wrap64 (rd l0 (ji12))), .slice Ao53 y54008.length co53]] rfl (by (try simp only [List.map_toArray, List.map_cons, List.map_nil]); first | done | (simp only [hji12]; rfl) | rfl | (simp only [List.length_drop, List.length_take]; rfl)) ?_; (with_reducible refine (customsref33_Encode.calls kj7 (wrap64 (rd l0 (ji12))) _ _ y54008 t54012 t54015 _ ?side1 ?side2 A20.out).mono ?_); (case side1 => refine (Kd.R_reads' (e := 5) (base := w.heap.size) (ok := fun k_ => True) (n := y54008.length) (c := co53) ?_).2.2; exact (Kd.R_ext ((Kd.R_mono (Kd.R_far (p := ⟨gb54011, 1, none⟩) (Kd.R_far (p := ⟨gb54011, 0, none⟩) (Kd.R_types HO54010.out BK54011.out (by decide)) (fun _ hk => hk.2) (.int .i64 (wrap64 (rd l0 (ji12))))) (fun _ hk => hk.2) (.slice Ao53 y54008.length co53)) (fun _ h_ => h_.1))))); (case side2 => exact (Kd.R_reads' HO54010.out).2.1); rintro e w57 ⟨v54013, rfl, ho0, hb⟩; refine ⟨_, rfl, ?_⟩; have n0_ := Aside0.mk (Kd.S_elder' (Kd.S_ext ((Kd.S_mono (Kd.S_far (p := ⟨gb54011, 1, none⟩) (Kd.S_far (p := ⟨gb54011, 0, none⟩) (Kd.S_mono HO_4.out (fun k_ hk => (⟨hk, hk.2⟩ : _ ∧ k_ ≠ gb54011))) (fun _ hk => hk.2) (.int .i64 (wrap64 (rd l0 (ji12))))) (fun _ hk => hk.2) (.slice Ao53 y54008.length co53)) (fun _ h_ => h_.1)))) (Kd.R_base ho0) hb); have n1_ := Aside0.mk (Kd.R_elder' (Kd.R_ext ((Kd.R_mono (Kd.R_far (p := ⟨gb54011, 1, none⟩) (Kd.R_far (p := ⟨gb54011, 0, none⟩) (Kd.R_types HO54010.out BK54011.out (by decide)) (fun _ hk => hk.2) (.int .i64 (wrap64 (rd l0 (ji12))))) (fun _ hk => hk.2) (.slice Ao53 y54008.length co53)) (fun _ h_ => h_.1)))) (Kd.R_base ho0) hb); have n2_ := Aside0.mk (Kd.R_lower (Kd.R_new' ho0 (Kd.R_lt (Kd.R_ext ((Kd.R_mono (Kd.R_far (p := ⟨gb54011, 1, none⟩) (Kd.R_far (p := ⟨gb54011, 0, none⟩) (Kd.R_types HO54010.out BK54011.out (by decide)) (fun _ hk => hk.2) (.int .i64 (wrap64 (rd l0 (ji12))))) (fun _ hk => hk.2) (.slice Ao53 y54008.length co53)) (fun _ h_ => h_.1)))))) (below_size (below_extB HB.out))); have n3_ := Aside0.mk (blk_below (g := gb54011) (o := .cells #[.int .i64 (wrap64 (rd l0 (ji12))), .slice Ao53 y54008.length co53] 57 (0, 0)) (by (with_reducible repeat (first | refine blk_drewN ?_ _ | refine blk_drew ?_ | refine blk_alloc ?_ _)); refine blk_put (cs := #[.int .i64 (wrap64 (rd l0 (ji12))), .slice none 0 0]) ?_ 1 _ rfl; (with_reducible repeat (first | refine blk_drewN ?_ _ | refine blk_drew ?_ | refine blk_alloc ?_ _)); refine blk_put (cs := #[.int .i64 0, .slice none 0 0]) ?_ 0 _ rfl; exact blk_ext BK54011.out) hb); have n4_ := Aside0.mk (below_step (below_extB HB.out) hb); clear HO_4; clear HO54010; clear BK54011; clear HB; have HO_4 := n0_; have HO54010 := n1_; have HO54014 := n2_; have BK54011 := n3_; have HB := n4_; clear n0_ n1_ n2_ n3_ n4_; (try clear hb); (try clear hb2); (try clear hk); (try clear hi); (try clear ho0); obtain ⟨i058, hi058, _, hsz58, _⟩ := info_parts info5; obtain ⟨A58, hcut58, hA58, hC58⟩ := print_mid_of (P := Try.prog) (Value.int .u8) 0 22 5 .i64 .i64 Try.underlying22 hi058 hsz58 (some ad54001) c0 l0 x5_1 (wrap64 ((wrap64 (x5_1 + 9)) + (wrap64 ((wrap64 ((wrap64 (rd l0 x5_1)) * 256)) + (wrap64 (rd l0 (ji5))))))) (of_decide_eq_true (by first | (with_reducible assumption) | assumption)) (by first | omega | exact of_decide_eq_true (by first | (with_reducible assumption) | assumption)) (of_decide_eq_true (by first | (with_reducible assumption) | assumption)) HC0.out; have HR54016 := Aside0.mk (Kd.C_of_reads (h1 := fun _ => rfl) (hA58 _ (Kd.reads_of_C HR0.out))); have HC54016 := Aside0.mk hC58; clear hA58 hC58 hi058 hsz58; obtain ⟨Ao59, co59, eo59⟩ := Kd.R_slice HO54014.out; subst eo59) | (go_at_call 21; refine calls_of_args (args' := #[.slice Ao59 t54012.length co59, .slice A58 ((l0.take ((wrap64 ((wrap64 (x5_1 + 9)) + (wrap64 ((wrap64 ((wrap64 (rd l0 x5_1)) * 256)) + (wrap64 (rd l0 (ji5))))))) : Int).toNat).drop (x5_1 : Int).toNat).length (c0 - x5_1.toNat)]) (by first | rfl | (rw [← cut_len l0 x5_1 (wrap64 ((wrap64 (x5_1 + 9)) + (wrap64 ((wrap64 ((wrap64 (rd l0 x5_1)) * 256)) + (wrap64 (rd l0 (ji5))))))) (by assumption)]; done) | (simp only [List.length_take, List.length_drop]; done) | (rw [show ((l0.take ((wrap64 ((wrap64 (x5_1 + 9)) + (wrap64 ((wrap64 ((wrap64 (rd l0 x5_1)) * 256)) + (wrap64 (rd l0 (ji5))))))) : Int).toNat).drop (x5_1 : Int).toNat).length = ((wrap64 ((wrap64 (x5_1 + 9)) + (wrap64 ((wrap64 ((wrap64 (rd l0 x5_1)) * 256)) + (wrap64 (rd l0 (ji5))))))).toNat - x5_1.toNat) from (by rw [List.length_drop, List.length_take]; have h_ : ((wrap64 ((wrap64 (x5_1 + 9)) + (wrap64 ((wrap64 ((wrap64 (rd l0 x5_1)) * 256)) + (wrap64 (rd l0 (ji5))))))) : Int) ≤ (l0.length : Int) := of_decide_eq_true (by first | (with_reducible assumption) | assumption); omega)]; simp only [List.length_take, List.length_drop])) ?_; (with_reducible refine (customsref33_SameBytes.calls _ _ t54012 _ _ ((l0.take ((wrap64 ((wrap64 (x5_1 + 9)) + (wrap64 ((wrap64 ((wrap64 (rd l0 x5_1)) * 256)) + (wrap64 (rd l0 (ji5))))))) : Int).toNat).drop (x5_1 : Int).toNat) false _ ?side1 ?side2 ?side3 ?side4 A25.out).mono ?_); (case side1 => exact Kd.C_ext (Kd.R_reads' HO54014.out).2.2); (case side2 => exact (Kd.R_reads' HO54014.out).2.1); (case side3 => repeat (first | exact (Kd.C_below HR54016.out HB.out) | (with_reducible refine Kd.C_alloc ?_ _) | (with_reducible refine Kd.C_drewN ?_ _) | (with_reducible refine Kd.C_drew ?_))); (case side4 => exact HC54016.out); rintro e w' ⟨rfl, ⟨nd, rfl⟩⟩))
                  go_ret2
                  exact ⟨_, by first | rfl | (simp [errW_none, errW_some] <;> rfl) | (simp only [← hji5, ← hji12, ← hji15]; first | rfl | (simp [errW_none, errW_some] <;> rfl)) | (simp [*, errW_none, errW_some] <;> rfl), Kd.S_ext (Kd.S_mono HO_4.out (fun _ hk => trivial)), below_extB HB.out⟩
              · rw [if_neg c21] at H
                have c21b0 : (t54015 == 0) = false := beq_eq_false_iff_ne.mpr c21
                have c21b1 : (t54015 != 0) = true := bne_iff_ne.mpr c21
                simp only [Option.some.injEq, Prod.mk.injEq] at H
                obtain ⟨rfl, rfl⟩ := H
                try go_wp2
                have n0_ := Aside0.mk (Kd.S_drew HO_4.out)
                have n1_ := Aside0.mk (below_drew1 HB.out)
                clear HO_4
                clear HB
                have HO_4 := n0_
                have HB := n1_
                clear n0_ n1_
                have p54003 : 0 ≤ ((ji12) : Int) := of_decide_eq_true (by first | (with_reducible assumption) | assumption)
                have q54003 : (ji12) < (l0.length : Int) := of_decide_eq_true (by first | (with_reducible assumption) | assumption)
                obtain ⟨ad54003, e54003, hx54003_0⟩ := Kd.at_int HR0.out (ji12) p54003 q54003
                have hw54003_0 := hx54003_0
                obtain rfl : ad54001 = ad54003 := (by injection e54003)
                replace hx54003_0 := (HB.out.cell (World.block_lt_of_cell? w _ hx54003_0)).trans hx54003_0
                replace p54003 := eq_true p54003
                replace q54003 := eq_true q54003
                obtain ⟨i061, hi061, _, hsz61, _⟩ := info_parts info5
                obtain ⟨A61, hcut61, hA61, hC61⟩ := print_mid_of (P := Try.prog) (Value.int .u8) 0 22 5 .i64 .i64 Try.underlying22 hi061 hsz61 (some ad54001) c0 l0 (ji15) (wrap64 ((ji15) + (wrap64 ((wrap64 ((wrap64 (rd l0 x5_1)) * 256)) + (wrap64 (rd l0 (ji5))))))) (of_decide_eq_true (by first | (with_reducible assumption) | assumption)) (by first | omega | exact of_decide_eq_true (by first | (with_reducible assumption) | assumption)) (of_decide_eq_true (by first | (with_reducible assumption) | assumption)) HC0.out
                have HR54007 := Aside0.mk (Kd.C_of_reads (h1 := fun _ => rfl) (hA61 _ (Kd.reads_of_C HR0.out)))
                have HC54007 := Aside0.mk hC61
                clear hA61 hC61 hi061 hsz61
                refine start_ (n := 19) (S := fun w' => w'.cell? (ad54001.add ((ji12)).toNat) = some (.int .u8 (rd l0 (ji12)))) (ds := []) #[false, false, false, false, false, false, false, false, false, false, false, false, false, false, false, false, false, false, false] (by kernel_rfl) rfl rfl (((HB.out.cell (World.block_lt_of_cell? w _ hw54003_0)).trans hw54003_0)) (fun hHeld => ?_); refine with_tabW customsref33_Scan.tab6 customsref33_Scan.bits6 (fun HT_ HW_ => ?_)
                generalize wc.drew = w60 at HO_4 HB HR54007 hx54003_0 hHeld ⊢
                refine pure_ (i := 0) (N := some 39) (v := ?_) (a' := ?_) #[true, false, false, false, false, false, false, false, false, false, false, false, false, false, false, false, false, false, false] rfl rfl (any_of HT_.out (by kernel_rfl)) (fun _ _ _ h => h) (Or.inl ⟨by rfl, ?_⟩) ?_ ?_
                rotate_left
                · intro w'
                  go_simp
                  with_reducible rfl
                rotate_left
                · simp only [Act.put, List.setIfInBounds_toArray, List.set_cons_zero, List.set_cons_succ, i64_w, i32_w]
                  rfl
                refine pure_ (i := 1) (N := some 40) (v := ?_) (a' := ?_) #[true, true, false, false, false, false, false, false, false, false, false, false, false, false, false, false, false, false, false] rfl rfl (any_of HT_.out (by kernel_rfl)) (fun _ _ _ h => h) (Or.inl ⟨by rfl, ?_⟩) ?_ ?_
                rotate_left
                · intro w'
                  go_simp
                  with_reducible rfl
                rotate_left
                · simp only [Act.put, List.setIfInBounds_toArray, List.set_cons_zero, List.set_cons_succ, i64_w, i32_w]
                  rfl
                refine pure_ (i := 2) (N := some 41) (v := ?_) (a' := ?_) #[true, true, true, false, false, false, false, false, false, false, false, false, false, false, false, false, false, false, false] rfl rfl (any_of HT_.out (by kernel_rfl)) (fun _ _ _ h => h) (Or.inl ⟨by rfl, ?_⟩) ?_ ?_
                rotate_left
                · intro w'
                  go_simp
                  with_reducible rfl
                rotate_left
                · simp only [Act.put, List.setIfInBounds_toArray, List.set_cons_zero, List.set_cons_succ, i64_w, i32_w]
                  rfl
                refine pure_ (i := 3) (N := some 42) (v := ?_) (a' := ?_) #[true, true, true, true, false, false, false, false, false, false, false, false, false, false, false, false, false, false, false] rfl rfl (any_of HT_.out (by kernel_rfl)) (fun _ _ _ h => h) (Or.inl ⟨by rfl, ?_⟩) ?_ ?_
                rotate_left
                · intro w'
                  go_simp
                  with_reducible rfl
                rotate_left
                · simp only [Act.put, List.setIfInBounds_toArray, List.set_cons_zero, List.set_cons_succ, i64_w, i32_w]
                  rfl
                refine pure_ (i := 7) (N := some 46) (v := ?_) (a' := ?_) #[true, true, true, true, false, false, false, true, false, false, false, false, false, false, false, false, false, false, false] rfl rfl (any_of HT_.out (by kernel_rfl)) (fun _ _ _ h => h) (Or.inl ⟨by rfl, ?_⟩) ?_ ?_
                rotate_left
                · intro w'
                  go_simp
                  with_reducible rfl
                rotate_left
                · simp only [Act.put, List.setIfInBounds_toArray, List.set_cons_zero, List.set_cons_succ, i64_w, i32_w]
                  rfl
                refine pure_ (i := 8) (N := some 47) (v := ?_) (a' := ?_) #[true, true, true, true, false, false, false, true, true, false, false, false, false, false, false, false, false, false, false] rfl rfl (any_of HT_.out (by kernel_rfl)) (fun _ _ _ h => h) (Or.inl ⟨by rfl, ?_⟩) ?_ ?_
                rotate_left
                · intro w'
                  go_simp
                  with_reducible rfl
                rotate_left
                · simp only [Act.put, List.setIfInBounds_toArray, List.set_cons_zero, List.set_cons_succ, i64_w, i32_w]
                  rfl
                refine pure_ (i := 9) (N := some 48) (v := ?_) (a' := ?_) #[true, true, true, true, false, false, false, true, true, true, false, false, false, false, false, false, false, false, false] rfl rfl (any_of HT_.out (by kernel_rfl)) (fun _ _ _ h => h) (Or.inl ⟨by rfl, ?_⟩) ?_ ?_
                rotate_left
                · intro w'
                  go_simp
                  with_reducible rfl
                rotate_left
                · simp only [Act.put, List.setIfInBounds_toArray, List.set_cons_zero, List.set_cons_succ, i64_w, i32_w]
                  rfl
                refine pure_ (i := 10) (N := some 49) (v := ?_) (a' := ?_) #[true, true, true, true, false, false, false, true, true, true, true, false, false, false, false, false, false, false, false] rfl rfl (any_of HT_.out (by kernel_rfl)) (fun _ _ _ h => h) (Or.inl ⟨by rfl, ?_⟩) ?_ ?_
                rotate_left
                · intro w'
                  go_simp
                  with_reducible rfl
                rotate_left
                · simp only [Act.put, List.setIfInBounds_toArray, List.set_cons_zero, List.set_cons_succ, i64_w, i32_w]
                  rfl
                refine pure_ (i := 11) (N := some 50) (v := ?_) (a' := ?_) #[true, true, true, true, false, false, false, true, true, true, true, true, false, false, false, false, false, false, false] rfl rfl (any_of HT_.out (by kernel_rfl)) (fun _ _ _ h => h) (Or.inl ⟨by rfl, ?_⟩) ?_ ?_
                rotate_left
                · intro w'
                  go_simp
                  with_reducible rfl
                rotate_left
                · simp only [Act.put, List.setIfInBounds_toArray, List.set_cons_zero, List.set_cons_succ, i64_w, i32_w]
                  rfl
                refine pure_ (i := 12) (N := some 51) (v := ?_) (a' := ?_) #[true, true, true, true, false, false, false, true, true, true, true, true, true, false, false, false, false, false, false] rfl rfl (any_of HT_.out (by kernel_rfl)) (fun _ _ _ h => h) (Or.inl ⟨by rfl, ?_⟩) ?_ ?_
                rotate_left
                · intro w'
                  go_simp
                  with_reducible rfl
                rotate_left
                · simp only [Act.put, List.setIfInBounds_toArray, List.set_cons_zero, List.set_cons_succ, i64_w, i32_w]
                  rfl
                refine pure_ (i := 13) (N := some 52) (v := ?_) (a' := ?_) #[true, true, true, true, false, false, false, true, true, true, true, true, true, true, false, false, false, false, false] rfl rfl (any_of HT_.out (by kernel_rfl)) (fun _ _ _ h => h) (Or.inl ⟨by rfl, ?_⟩) ?_ ?_
                rotate_left
                · intro w'
                  go_simp
                  with_reducible rfl
                rotate_left
                · simp only [Act.put, List.setIfInBounds_toArray, List.set_cons_zero, List.set_cons_succ, i64_w, i32_w]
                  rfl
                refine pure_ (i := 14) (N := some 53) (v := ?_) (a' := ?_) #[true, true, true, true, false, false, false, true, true, true, true, true, true, true, true, false, false, false, false] rfl rfl (any_of HT_.out (by kernel_rfl)) (fun _ _ _ h => h) (Or.inl ⟨by rfl, ?_⟩) ?_ ?_
                rotate_left
                · intro w'
                  go_simp
                  with_reducible rfl
                rotate_left
                · simp only [Act.put, List.setIfInBounds_toArray, List.set_cons_zero, List.set_cons_succ, i64_w, i32_w]
                  rfl
                refine take_ (i := 4) (N := some 43) (v := ?_) (a' := ?_) #[true, true, true, true, true, false, false, true, true, true, true, true, true, true, true, false, false, false, false] rfl rfl (take_ofW HT_.out HW_.out (by kernel_rfl)) (fun _ _ _ h => h) (Or.inl ⟨by rfl, ?_⟩) hHeld ?_ ?_
                rotate_left
                · intro w' s0
                  go_simp
                  with_reducible rfl
                rotate_left
                · simp only [Act.put, List.setIfInBounds_toArray, List.set_cons_zero, List.set_cons_succ, i64_w, i32_w]
                  rfl
                refine pure_ (i := 5) (N := some 44) (v := ?_) (a' := ?_) #[true, true, true, true, true, true, false, true, true, true, true, true, true, true, true, false, false, false, false] rfl rfl (any_of HT_.out (by kernel_rfl)) (fun _ _ _ h => h) (Or.inl ⟨by rfl, ?_⟩) ?_ ?_
                rotate_left
                · intro w'
                  go_simp
                  with_reducible rfl
                rotate_left
                · simp only [Act.put, List.setIfInBounds_toArray, List.set_cons_zero, List.set_cons_succ, i64_w, i32_w]
                  rfl
                refine join_ (σ := Value × Value × Nat) 1 #[true, true, true, true, true, true, true, true, true, true, true, true, true, true, true, true, true, true, false] (fun s_ => [(45, s_.1), (54, s_.2.1), (7, .pointer (some ⟨s_.2.2, 0, none⟩)), (55, .agg #[.int .i64 (wrap64 (rd l0 (ji12))), s_.2.1])]) (fun s_ w' => (w'.cell? (ad54001.add ((ji12)).toNat) = some (.int .u8 (rd l0 (ji12)))) ∧ (Kd.R (Kd.int .u8) 5 w' w.heap.size (fun _ => True) s_.2.1 y54008) ∧ (Kd.S k57 57 w' w.heap.size (fun k_ => some k_ ≠ (s_.2.1 : Value).ownBlock ∧ k_ ≠ s_.2.2) u4 x4_1) ∧ (w'.heap[s_.2.2]? = some (.cells #[.int .i64 0, .slice none 0 0] 57 (0, 0))) ∧ (w.heap.size ≤ s_.2.2) ∧ (w.heap.size ≤ s_.2.2) ∧ (Below w.heap.size w w')) ?_ ?_
                rotate_left
                · intro hCont
                  refine two_ (i := 6) (j := 17) (Ni := some 45) (Nj := some 7) #[true, true, true, true, true, true, true, true, true, true, true, true, true, true, true, false, false, false, false] #[true, true, true, true, true, true, false, true, true, true, true, true, true, true, true, false, false, true, false] rfl rfl rfl rfl (two_of HT_.out (by kernel_rfl)) (by decide) (by decide) (fun K hK => ?_) (fun K hK => ?_)
                  · skip
                    refine Kd.R_lit_step (Kd.int .u8) _ 5 ?hg (N := 45) ?hd (xs := ([] : List Int)) (inner := []) (ok := fun _ => True) (okp := fun _ => True) ?hr ?hp (fun _ hk => hk) trivial (Below.refl _ _) (Nat.le_refl _) (by simp) ?_; (case hd => rfl); (case hg => rfl); (case hr => first | (go_simp; done) | (go_simp; rfl)); (case hp => exact (Reps.none _ _))
                    intro v54005 w62 ho63 hb hg_ hnew_
                    clear hg_ hnew_
                    (first | rw [← Ny54004.out] at ho63 | (simp only [Int.reduceToNat] at ho63; rw [← Ny54004.out] at ho63))
                    have n0_ := Aside0.mk (Kd.S_elder' (Kd.S_ext HO_4.out) (Kd.R_base ho63) hb)
                    have n1_ := Aside0.mk (Kd.R_lower ho63 (below_size (below_ext HB.out)))
                    have n2_ := Aside0.mk (below_step (below_ext HB.out) hb)
                    clear HO_4
                    clear HB
                    have HO_4 := n0_
                    have HO54006 := n1_
                    have HB := n2_
                    clear n0_ n1_ n2_
                    clear hb ho63
                    refine hK.out _ _ (((HB.out.cell (World.block_lt_of_cell? w _ hw54003_0)).trans hw54003_0)) (fun hHeld => ?_)
                    clear hK K
                    refine norm_ (a' := ?_) ?_ ?_
                    rotate_left
                    · show Act.put _ (some 45) _ = _
                      simp only [Act.put, List.setIfInBounds_toArray, List.set_cons_zero, List.set_cons_succ, i64_w, i32_w]
                      rfl
                    refine two_ (i := 15) (j := 17) (Ni := some 54) (Nj := some 7) #[true, true, true, true, true, true, true, true, true, true, true, true, true, true, true, true, false, false, false] #[true, true, true, true, true, true, true, true, true, true, true, true, true, true, true, false, false, true, false] rfl rfl rfl rfl (two_of HT_.out (by kernel_rfl)) (by decide) (by decide) (fun K hK => ?_) (fun K hK => ?_)
                    · skip
                      refine Kd.R_append_rows_step (Kd.int .u8) (w0 := w) w.heap.size (by rfl) (.tmp 45) (.tmp 53) 22 5 (.int .u8 0) 1 rfl Try.underlying22 info5 rfl (by decide) (by omega) v54005 y54004 ((l0.take ((wrap64 ((ji15) + (wrap64 ((wrap64 ((wrap64 (rd l0 x5_1)) * 256)) + (wrap64 (rd l0 (ji5))))))) : Int).toNat).drop ((ji15) : Int).toNat) _ _ _ (fun _ => True) (fun _ => False) rfl rfl ?aO ?aR (fun _ _ h => h) (fun _ h => h.elim) ?aF ?aB ?aS ?aL ?_
                      (case aR => first | (refine rrow_len (show ((l0.take ((wrap64 ((ji15) + (wrap64 ((wrap64 ((wrap64 (rd l0 x5_1)) * 256)) + (wrap64 (rd l0 (ji5))))))) : Int).toNat).drop ((ji15) : Int).toNat).length = ((wrap64 ((ji15) + (wrap64 ((wrap64 ((wrap64 (rd l0 x5_1)) * 256)) + (wrap64 (rd l0 (ji5))))))).toNat - (ji15).toNat) from (by rw [List.length_drop, List.length_take]; have h_ : ((wrap64 ((ji15) + (wrap64 ((wrap64 ((wrap64 (rd l0 x5_1)) * 256)) + (wrap64 (rd l0 (ji5))))))) : Int) ≤ (l0.length : Int) := of_decide_eq_true (by first | (with_reducible assumption) | assumption); omega)) ?_; repeat (first | exact (Kd.C_below HR54007.out HB.out) | (with_reducible refine Kd.C_alloc ?_ _) | (with_reducible refine Kd.C_drewN ?_ _) | (with_reducible refine Kd.C_drew ?_))) | (refine rrow_len (m := ((l0.take ((wrap64 ((ji15) + (wrap64 ((wrap64 ((wrap64 (rd l0 x5_1)) * 256)) + (wrap64 (rd l0 (ji5))))))) : Int).toNat).drop ((ji15) : Int).toNat).length) (by simp only [List.length_drop, List.length_take]) ?_; repeat (first | exact (Kd.C_below HR54007.out HB.out) | (with_reducible refine Kd.C_alloc ?_ _) | (with_reducible refine Kd.C_drewN ?_ _) | (with_reducible refine Kd.C_drew ?_))) | (repeat (first | exact (Kd.C_below HR54007.out HB.out) | (with_reducible refine Kd.C_alloc ?_ _) | (with_reducible refine Kd.C_drewN ?_ _) | (with_reducible refine Kd.C_drew ?_))))
                      (case aB => exact (below_ext HB.out))
                      (case aF => exact (fun _ _ => trivial))
                      (case aO => exact (Kd.R_ext HO54006.out))
                      (case aS => exact (below_size (below_ext HB.out)))
                      (case aL => first | (have := LMc19.out; simp only [List.length_drop, List.length_take] at this ⊢; omega) | (have := LMc19.out; have hlx_ := (show ((l0.take ((wrap64 ((ji15) + (wrap64 ((wrap64 ((wrap64 (rd l0 x5_1)) * 256)) + (wrap64 (rd l0 (ji5))))))) : Int).toNat).drop ((ji15) : Int).toNat).length = ((wrap64 ((ji15) + (wrap64 ((wrap64 ((wrap64 (rd l0 x5_1)) * 256)) + (wrap64 (rd l0 (ji5))))))).toNat - (ji15).toNat) from (by rw [List.length_drop, List.length_take]; have h_ : ((wrap64 ((ji15) + (wrap64 ((wrap64 ((wrap64 (rd l0 x5_1)) * 256)) + (wrap64 (rd l0 (ji5))))))) : Int) ≤ (l0.length : Int) := of_decide_eq_true (by first | (with_reducible assumption) | assumption); omega)); omega))
                      intro v54009 w64 ho hb hg hat
                      rw [← Ny54008.out] at ho
                      have n0_ := Aside0.mk (Kd.S_after (ok := (fun _ => True)) (Kd.S_ext HO_4.out) hg hat)
                      have n1_ := Aside0.mk (hb)
                      have n2_ := Aside0.mk (ho)
                      clear HO_4
                      clear HB
                      clear HO54006
                      have HO_4 := n0_
                      have HB := n1_
                      have HO54010 := n2_
                      clear n0_ n1_ n2_
                      clear ho hb hg hat
                      obtain ⟨Ao65, co65, eo65⟩ := Kd.R_slice HO54010.out
                      (first | subst eo65 | (injection eo65 with f1_ f2_ f3_; have f4_ := f1_.symm; have f5_ := f3_.symm; clear f1_ f2_ f3_; subst f4_; subst f5_))
                      refine hK.out _ _ (((HB.out.cell (World.block_lt_of_cell? w _ hw54003_0)).trans hw54003_0)) (fun hHeld => ?_)
                      clear hK K
                      refine norm_ (a' := ?_) ?_ ?_
                      rotate_left
                      · show Act.put _ (some 54) _ = _
                        simp only [Act.put, List.setIfInBounds_toArray, List.set_cons_zero, List.set_cons_succ, i64_w, i32_w]
                        rfl
                      refine pure_ (i := 16) (N := some 55) (v := ?_) (a' := ?_) #[true, true, true, true, true, true, true, true, true, true, true, true, true, true, true, true, true, false, false] rfl rfl (any_of HT_.out (by kernel_rfl)) (fun _ _ _ h => h) (Or.inl ⟨by rfl, ?_⟩) ?_ ?_
                      rotate_left
                      · intro w'
                        go_simp
                        with_reducible rfl
                      rotate_left
                      · simp only [Act.put, List.setIfInBounds_toArray, List.set_cons_zero, List.set_cons_succ, i64_w, i32_w]
                        rfl
                      refine one_ (i := 17) (N := some 7) #[true, true, true, true, true, true, true, true, true, true, true, true, true, true, true, true, true, true, false] rfl rfl (one_of HT_.out (by kernel_rfl)) (by decide) (fun K hK => ?_)
                      refine box_step ?hg (N := 7) ?hd (cs := #[.int .i64 0, .slice none 0 0]) (t := 57) ?hr ?_; (case hd => rfl); (case hg => rfl); (case hr => first | (go_simp; done) | (go_simp; rfl))
                      intro gb54011 hg w66 hbox hb
                      have n0_ := Aside0.mk (Kd.S_below (Kd.S_elderB (Kd.S_ext HO_4.out) gb54011 (Nat.le_of_eq hg.symm)) hb)
                      have n1_ := Aside0.mk (Kd.R_below (Kd.R_ext HO54010.out) hb)
                      have n2_ := Aside0.mk (below_step (below_ext HB.out) hb)
                      have n3_ := Aside0.mk (hbox)
                      have n4_ := Aside0.mk ((by rw [hg]; exact (below_size (below_ext HB.out)) : w.heap.size ≤ gb54011))
                      have n5_ := Aside0.mk ((by rw [hg]; exact (below_size (below_ext HB.out)) : w.heap.size ≤ gb54011))
                      clear HO_4
                      clear HO54010
                      clear HB
                      have HO_4 := n0_
                      have HO54010 := n1_
                      have HB := n2_
                      have BK54011 := n3_
                      have GW54011 := n4_
                      have GE54011 := n5_; have GI54011 := GE_.mk GE54011.out
                      clear n0_ n1_ n2_ n3_ n4_ n5_
                      clear hb hbox hg
                      refine hK.out _ _ (((HB.out.cell (World.block_lt_of_cell? w _ hw54003_0)).trans hw54003_0)) (fun hHeld => ?_)
                      clear hK K
                      refine norm_ (a' := ?_) ?_ ?_
                      rotate_left
                      · show Act.put _ (some 7) _ = _
                        simp only [Act.put, List.setIfInBounds_toArray, List.set_cons_zero, List.set_cons_succ, i64_w, i32_w]
                        rfl
                      exact norm_ (by simp only [putAll, Act.put, List.setIfInBounds_toArray, List.set_cons_zero, List.set_cons_succ]) (hCont (v54005, .slice Ao65 y54008.length co65, gb54011) _ ⟨hHeld, (Kd.R_ext HO54010.out), (Kd.S_ext (Kd.S_mono HO_4.out (fun _ hk => ⟨hk.1.2, hk.2⟩))), (blk_ext BK54011.out), GW54011.out, GE54011.out, (below_extB HB.out)⟩)
                    · skip
                      refine box_step ?hg (N := 7) ?hd (cs := #[.int .i64 0, .slice none 0 0]) (t := 57) ?hr ?_; (case hd => rfl); (case hg => rfl); (case hr => first | (go_simp; done) | (go_simp; rfl))
                      intro gb54011 hg w64 hbox hb
                      have n0_ := Aside0.mk (Kd.S_below (Kd.S_elderB (Kd.S_ext HO_4.out) gb54011 (Nat.le_of_eq hg.symm)) hb)
                      have n1_ := Aside0.mk (Kd.R_below (Kd.R_ext HO54006.out) hb)
                      have n2_ := Aside0.mk (below_step (below_ext HB.out) hb)
                      have n3_ := Aside0.mk (hbox)
                      have n4_ := Aside0.mk ((by rw [hg]; exact (below_size (below_ext HB.out)) : w.heap.size ≤ gb54011))
                      have n5_ := Aside0.mk ((by rw [hg]; exact (below_size (below_ext HB.out)) : w.heap.size ≤ gb54011))
                      clear HO_4
                      clear HO54006
                      clear HB
                      have HO_4 := n0_
                      have HO54006 := n1_
                      have HB := n2_
                      have BK54011 := n3_
                      have GW54011 := n4_
                      have GE54011 := n5_; have GI54011 := GE_.mk GE54011.out
                      clear n0_ n1_ n2_ n3_ n4_ n5_
                      clear hb hbox hg
                      refine hK.out _ _ (((HB.out.cell (World.block_lt_of_cell? w _ hw54003_0)).trans hw54003_0)) (fun hHeld => ?_)
                      clear hK K
                      refine norm_ (a' := ?_) ?_ ?_
                      rotate_left
                      · show Act.put _ (some 7) _ = _
                        simp only [Act.put, List.setIfInBounds_toArray, List.set_cons_zero, List.set_cons_succ, i64_w, i32_w]
                        rfl
                      refine one_ (i := 15) (N := some 54) #[true, true, true, true, true, true, true, true, true, true, true, true, true, true, true, true, false, true, false] rfl rfl (one_of HT_.out (by kernel_rfl)) (by decide) (fun K hK => ?_)
                      refine Kd.R_append_rows_step (Kd.int .u8) (w0 := w) w.heap.size (by rfl) (.tmp 45) (.tmp 53) 22 5 (.int .u8 0) 1 rfl Try.underlying22 info5 rfl (by decide) (by omega) v54005 y54004 ((l0.take ((wrap64 ((ji15) + (wrap64 ((wrap64 ((wrap64 (rd l0 x5_1)) * 256)) + (wrap64 (rd l0 (ji5))))))) : Int).toNat).drop ((ji15) : Int).toNat) _ _ _ (fun _ => True) (fun _ => False) rfl rfl ?aO ?aR (fun _ _ h => h) (fun _ h => h.elim) ?aF ?aB ?aS ?aL ?_
                      (case aR => first | (refine rrow_len (show ((l0.take ((wrap64 ((ji15) + (wrap64 ((wrap64 ((wrap64 (rd l0 x5_1)) * 256)) + (wrap64 (rd l0 (ji5))))))) : Int).toNat).drop ((ji15) : Int).toNat).length = ((wrap64 ((ji15) + (wrap64 ((wrap64 ((wrap64 (rd l0 x5_1)) * 256)) + (wrap64 (rd l0 (ji5))))))).toNat - (ji15).toNat) from (by rw [List.length_drop, List.length_take]; have h_ : ((wrap64 ((ji15) + (wrap64 ((wrap64 ((wrap64 (rd l0 x5_1)) * 256)) + (wrap64 (rd l0 (ji5))))))) : Int) ≤ (l0.length : Int) := of_decide_eq_true (by first | (with_reducible assumption) | assumption); omega)) ?_; repeat (first | exact (Kd.C_below HR54007.out HB.out) | (with_reducible refine Kd.C_alloc ?_ _) | (with_reducible refine Kd.C_drewN ?_ _) | (with_reducible refine Kd.C_drew ?_))) | (refine rrow_len (m := ((l0.take ((wrap64 ((ji15) + (wrap64 ((wrap64 ((wrap64 (rd l0 x5_1)) * 256)) + (wrap64 (rd l0 (ji5))))))) : Int).toNat).drop ((ji15) : Int).toNat).length) (by simp only [List.length_drop, List.length_take]) ?_; repeat (first | exact (Kd.C_below HR54007.out HB.out) | (with_reducible refine Kd.C_alloc ?_ _) | (with_reducible refine Kd.C_drewN ?_ _) | (with_reducible refine Kd.C_drew ?_))) | (repeat (first | exact (Kd.C_below HR54007.out HB.out) | (with_reducible refine Kd.C_alloc ?_ _) | (with_reducible refine Kd.C_drewN ?_ _) | (with_reducible refine Kd.C_drew ?_))))
                      (case aB => exact (below_extB HB.out))
                      (case aF => exact (fun _ _ => trivial))
                      (case aO => exact (Kd.R_ext HO54006.out))
                      (case aS => exact (below_size (below_extB HB.out)))
                      (case aL => first | (have := LMc19.out; simp only [List.length_drop, List.length_take] at this ⊢; omega) | (have := LMc19.out; have hlx_ := (show ((l0.take ((wrap64 ((ji15) + (wrap64 ((wrap64 ((wrap64 (rd l0 x5_1)) * 256)) + (wrap64 (rd l0 (ji5))))))) : Int).toNat).drop ((ji15) : Int).toNat).length = ((wrap64 ((ji15) + (wrap64 ((wrap64 ((wrap64 (rd l0 x5_1)) * 256)) + (wrap64 (rd l0 (ji5))))))).toNat - (ji15).toNat) from (by rw [List.length_drop, List.length_take]; have h_ : ((wrap64 ((ji15) + (wrap64 ((wrap64 ((wrap64 (rd l0 x5_1)) * 256)) + (wrap64 (rd l0 (ji5))))))) : Int) ≤ (l0.length : Int) := of_decide_eq_true (by first | (with_reducible assumption) | assumption); omega)); omega))
                      intro v54009 w65 ho hb hg hat
                      rw [← Ny54008.out] at ho
                      have n0_ := Aside0.mk (Kd.S_after (ok := (fun k_ => k_ ≠ gb54011)) (Kd.S_ext (Kd.S_mono HO_4.out (fun _ hk => ⟨hk.2, hk.1.2⟩))) hg hat)
                      have n1_ := Aside0.mk (blk_grown (g := gb54011) (o := .cells #[.int .i64 0, .slice none 0 0] 57 (0, 0)) (blk_ext BK54011.out) hg (Kd.R_ne HO54006.out BK54011.out (by decide)))
                      have n2_ := Aside0.mk (hb)
                      have n3_ := Aside0.mk (ho)
                      clear HO_4
                      clear BK54011
                      clear HB
                      clear HO54006
                      have HO_4 := n0_
                      have BK54011 := n1_
                      have HB := n2_
                      have HO54010 := n3_
                      clear n0_ n1_ n2_ n3_
                      clear ho hb hg hat
                      obtain ⟨Ao66, co66, eo66⟩ := Kd.R_slice HO54010.out
                      (first | subst eo66 | (injection eo66 with f1_ f2_ f3_; have f4_ := f1_.symm; have f5_ := f3_.symm; clear f1_ f2_ f3_; subst f4_; subst f5_))
                      refine hK.out _ _ (((HB.out.cell (World.block_lt_of_cell? w _ hw54003_0)).trans hw54003_0)) (fun hHeld => ?_)
                      clear hK K
                      refine norm_ (a' := ?_) ?_ ?_
                      rotate_left
                      · show Act.put _ (some 54) _ = _
                        simp only [Act.put, List.setIfInBounds_toArray, List.set_cons_zero, List.set_cons_succ, i64_w, i32_w]
                        rfl
                      refine pure_ (i := 16) (N := some 55) (v := ?_) (a' := ?_) #[true, true, true, true, true, true, true, true, true, true, true, true, true, true, true, true, true, true, false] rfl rfl (any_of HT_.out (by kernel_rfl)) (fun _ _ _ h => h) (Or.inl ⟨by rfl, ?_⟩) ?_ ?_
                      rotate_left
                      · intro w'
                        go_simp
                        with_reducible rfl
                      rotate_left
                      · simp only [Act.put, List.setIfInBounds_toArray, List.set_cons_zero, List.set_cons_succ, i64_w, i32_w]
                        rfl
                      exact norm_ (by simp only [putAll, Act.put, List.setIfInBounds_toArray, List.set_cons_zero, List.set_cons_succ]) (hCont (v54005, .slice Ao66 y54008.length co66, gb54011) _ ⟨hHeld, (Kd.R_ext HO54010.out), (Kd.S_ext (Kd.S_mono HO_4.out (fun _ hk => ⟨hk.2, hk.1⟩))), (blk_ext BK54011.out), GW54011.out, GE54011.out, (below_extB HB.out)⟩)
                  · skip
                    refine box_step ?hg (N := 7) ?hd (cs := #[.int .i64 0, .slice none 0 0]) (t := 57) ?hr ?_; (case hd => rfl); (case hg => rfl); (case hr => first | (go_simp; done) | (go_simp; rfl))
                    intro gb54011 hg w62 hbox hb
                    have n0_ := Aside0.mk (Kd.S_below (Kd.S_elderB (Kd.S_ext HO_4.out) gb54011 (Nat.le_of_eq hg.symm)) hb)
                    have n1_ := Aside0.mk (below_step (below_ext HB.out) hb)
                    have n2_ := Aside0.mk (hbox)
                    have n3_ := Aside0.mk ((by rw [hg]; exact (below_size (below_ext HB.out)) : w.heap.size ≤ gb54011))
                    have n4_ := Aside0.mk ((by rw [hg]; exact (below_size (below_ext HB.out)) : w.heap.size ≤ gb54011))
                    clear HO_4
                    clear HB
                    have HO_4 := n0_
                    have HB := n1_
                    have BK54011 := n2_
                    have GW54011 := n3_
                    have GE54011 := n4_; have GI54011 := GE_.mk GE54011.out
                    clear n0_ n1_ n2_ n3_ n4_
                    clear hb hbox hg
                    refine hK.out _ _ (((HB.out.cell (World.block_lt_of_cell? w _ hw54003_0)).trans hw54003_0)) (fun hHeld => ?_)
                    clear hK K
                    refine norm_ (a' := ?_) ?_ ?_
                    rotate_left
                    · show Act.put _ (some 7) _ = _
                      simp only [Act.put, List.setIfInBounds_toArray, List.set_cons_zero, List.set_cons_succ, i64_w, i32_w]
                      rfl
                    refine one_ (i := 6) (N := some 45) #[true, true, true, true, true, true, true, true, true, true, true, true, true, true, true, false, false, true, false] rfl rfl (one_of HT_.out (by kernel_rfl)) (by decide) (fun K hK => ?_)
                    refine Kd.R_lit_step (Kd.int .u8) _ 5 ?hg (N := 45) ?hd (xs := ([] : List Int)) (inner := []) (ok := fun _ => True) (okp := fun _ => True) ?hr ?hp (fun _ hk => hk) trivial (Below.refl _ _) (Nat.le_refl _) (by simp) ?_; (case hd => rfl); (case hg => rfl); (case hr => first | (go_simp; done) | (go_simp; rfl)); (case hp => exact (Reps.none _ _))
                    intro v54005 w63 ho64 hb hg_ hnew_
                    clear hg_ hnew_
                    (first | rw [← Ny54004.out] at ho64 | (simp only [Int.reduceToNat] at ho64; rw [← Ny54004.out] at ho64))
                    have n0_ := Aside0.mk (Kd.S_elder' (Kd.S_ext HO_4.out) (Kd.R_base ho64) hb)
                    have n1_ := Aside0.mk (Kd.R_lower ho64 (below_size (below_extB HB.out)))
                    have n2_ := Aside0.mk (blk_below (blk_ext BK54011.out) hb)
                    have n3_ := Aside0.mk (below_step (below_extB HB.out) hb)
                    clear HO_4
                    clear BK54011
                    clear HB
                    have HO_4 := n0_
                    have HO54006 := n1_
                    have BK54011 := n2_
                    have HB := n3_
                    clear n0_ n1_ n2_ n3_
                    clear hb ho64
                    refine hK.out _ _ (((HB.out.cell (World.block_lt_of_cell? w _ hw54003_0)).trans hw54003_0)) (fun hHeld => ?_)
                    clear hK K
                    refine norm_ (a' := ?_) ?_ ?_
                    rotate_left
                    · show Act.put _ (some 45) _ = _
                      simp only [Act.put, List.setIfInBounds_toArray, List.set_cons_zero, List.set_cons_succ, i64_w, i32_w]
                      rfl
                    refine one_ (i := 15) (N := some 54) #[true, true, true, true, true, true, true, true, true, true, true, true, true, true, true, true, false, true, false] rfl rfl (one_of HT_.out (by kernel_rfl)) (by decide) (fun K hK => ?_)
                    refine Kd.R_append_rows_step (Kd.int .u8) (w0 := w) w.heap.size (by rfl) (.tmp 45) (.tmp 53) 22 5 (.int .u8 0) 1 rfl Try.underlying22 info5 rfl (by decide) (by omega) v54005 y54004 ((l0.take ((wrap64 ((ji15) + (wrap64 ((wrap64 ((wrap64 (rd l0 x5_1)) * 256)) + (wrap64 (rd l0 (ji5))))))) : Int).toNat).drop ((ji15) : Int).toNat) _ _ _ (fun _ => True) (fun _ => False) rfl rfl ?aO ?aR (fun _ _ h => h) (fun _ h => h.elim) ?aF ?aB ?aS ?aL ?_
                    (case aR => first | (refine rrow_len (show ((l0.take ((wrap64 ((ji15) + (wrap64 ((wrap64 ((wrap64 (rd l0 x5_1)) * 256)) + (wrap64 (rd l0 (ji5))))))) : Int).toNat).drop ((ji15) : Int).toNat).length = ((wrap64 ((ji15) + (wrap64 ((wrap64 ((wrap64 (rd l0 x5_1)) * 256)) + (wrap64 (rd l0 (ji5))))))).toNat - (ji15).toNat) from (by rw [List.length_drop, List.length_take]; have h_ : ((wrap64 ((ji15) + (wrap64 ((wrap64 ((wrap64 (rd l0 x5_1)) * 256)) + (wrap64 (rd l0 (ji5))))))) : Int) ≤ (l0.length : Int) := of_decide_eq_true (by first | (with_reducible assumption) | assumption); omega)) ?_; repeat (first | exact (Kd.C_below HR54007.out HB.out) | (with_reducible refine Kd.C_alloc ?_ _) | (with_reducible refine Kd.C_drewN ?_ _) | (with_reducible refine Kd.C_drew ?_))) | (refine rrow_len (m := ((l0.take ((wrap64 ((ji15) + (wrap64 ((wrap64 ((wrap64 (rd l0 x5_1)) * 256)) + (wrap64 (rd l0 (ji5))))))) : Int).toNat).drop ((ji15) : Int).toNat).length) (by simp only [List.length_drop, List.length_take]) ?_; repeat (first | exact (Kd.C_below HR54007.out HB.out) | (with_reducible refine Kd.C_alloc ?_ _) | (with_reducible refine Kd.C_drewN ?_ _) | (with_reducible refine Kd.C_drew ?_))) | (repeat (first | exact (Kd.C_below HR54007.out HB.out) | (with_reducible refine Kd.C_alloc ?_ _) | (with_reducible refine Kd.C_drewN ?_ _) | (with_reducible refine Kd.C_drew ?_))))
                    (case aB => exact (below_extB HB.out))
                    (case aF => exact (fun _ _ => trivial))
                    (case aO => exact (Kd.R_ext HO54006.out))
                    (case aS => exact (below_size (below_extB HB.out)))
                    (case aL => first | (have := LMc19.out; simp only [List.length_drop, List.length_take] at this ⊢; omega) | (have := LMc19.out; have hlx_ := (show ((l0.take ((wrap64 ((ji15) + (wrap64 ((wrap64 ((wrap64 (rd l0 x5_1)) * 256)) + (wrap64 (rd l0 (ji5))))))) : Int).toNat).drop ((ji15) : Int).toNat).length = ((wrap64 ((ji15) + (wrap64 ((wrap64 ((wrap64 (rd l0 x5_1)) * 256)) + (wrap64 (rd l0 (ji5))))))).toNat - (ji15).toNat) from (by rw [List.length_drop, List.length_take]; have h_ : ((wrap64 ((ji15) + (wrap64 ((wrap64 ((wrap64 (rd l0 x5_1)) * 256)) + (wrap64 (rd l0 (ji5))))))) : Int) ≤ (l0.length : Int) := of_decide_eq_true (by first | (with_reducible assumption) | assumption); omega)); omega))
                    intro v54009 w65 ho hb hg hat
                    rw [← Ny54008.out] at ho
                    have n0_ := Aside0.mk (Kd.S_after (ok := (fun k_ => k_ ≠ gb54011)) (Kd.S_ext (Kd.S_mono HO_4.out (fun _ hk => ⟨hk.1.2, hk.2⟩))) hg hat)
                    have n1_ := Aside0.mk (blk_grown (g := gb54011) (o := .cells #[.int .i64 0, .slice none 0 0] 57 (0, 0)) (blk_ext BK54011.out) hg (Kd.R_ne HO54006.out BK54011.out (by decide)))
                    have n2_ := Aside0.mk (hb)
                    have n3_ := Aside0.mk (ho)
                    clear HO_4
                    clear BK54011
                    clear HB
                    clear HO54006
                    have HO_4 := n0_
                    have BK54011 := n1_
                    have HB := n2_
                    have HO54010 := n3_
                    clear n0_ n1_ n2_ n3_
                    clear ho hb hg hat
                    obtain ⟨Ao66, co66, eo66⟩ := Kd.R_slice HO54010.out
                    (first | subst eo66 | (injection eo66 with f1_ f2_ f3_; have f4_ := f1_.symm; have f5_ := f3_.symm; clear f1_ f2_ f3_; subst f4_; subst f5_))
                    refine hK.out _ _ (((HB.out.cell (World.block_lt_of_cell? w _ hw54003_0)).trans hw54003_0)) (fun hHeld => ?_)
                    clear hK K
                    refine norm_ (a' := ?_) ?_ ?_
                    rotate_left
                    · show Act.put _ (some 54) _ = _
                      simp only [Act.put, List.setIfInBounds_toArray, List.set_cons_zero, List.set_cons_succ, i64_w, i32_w]
                      rfl
                    refine pure_ (i := 16) (N := some 55) (v := ?_) (a' := ?_) #[true, true, true, true, true, true, true, true, true, true, true, true, true, true, true, true, true, true, false] rfl rfl (any_of HT_.out (by kernel_rfl)) (fun _ _ _ h => h) (Or.inl ⟨by rfl, ?_⟩) ?_ ?_
                    rotate_left
                    · intro w'
                      go_simp
                      with_reducible rfl
                    rotate_left
                    · simp only [Act.put, List.setIfInBounds_toArray, List.set_cons_zero, List.set_cons_succ, i64_w, i32_w]
                      rfl
                    exact norm_ (by simp only [putAll, Act.put, List.setIfInBounds_toArray, List.set_cons_zero, List.set_cons_succ]) (hCont (v54005, .slice Ao66 y54008.length co66, gb54011) _ ⟨hHeld, (Kd.R_ext HO54010.out), (Kd.S_ext (Kd.S_mono HO_4.out (fun _ hk => ⟨hk.2, hk.1⟩))), (blk_ext BK54011.out), GW54011.out, GE54011.out, (below_extB HB.out)⟩)
                rintro ⟨v54005, v54009, gb54011⟩ w67 ⟨hS_, h0_, h1_, h2_, h3_, h4_, h5_⟩
                have n0_ : Aside0 (Kd.R (Kd.int .u8) 5 w67 w.heap.size (fun _ => True) v54009 y54008) := ⟨h0_⟩
                have n1_ : Aside0 (Kd.S k57 57 w67 w.heap.size (fun k_ => some k_ ≠ (v54009 : Value).ownBlock ∧ k_ ≠ gb54011) u4 x4_1) := ⟨h1_⟩
                have n2_ : Aside0 (w67.heap[gb54011]? = some (.cells #[.int .i64 0, .slice none 0 0] 57 (0, 0))) := ⟨h2_⟩
                have n3_ : Aside0 (w.heap.size ≤ gb54011) := ⟨h3_⟩
                have n4_ : Aside0 (w.heap.size ≤ gb54011) := ⟨h4_⟩
                have n5_ : Aside0 (Below w.heap.size w w67) := ⟨h5_⟩
                clear HO_4
                clear HB
                clear h0_ h1_ h2_ h3_ h4_ h5_
                have HO54010 := n0_
                have HO_4 := n1_
                have BK54011 := n2_
                have GW54011 := n3_
                have GE54011 := n4_; have GI54011 := GE_.mk GE54011.out
                have HB := n5_
                clear n0_ n1_ n2_ n3_ n4_ n5_
                have hHeld : w67.cell? (ad54001.add ((ji12)).toNat) = some (.int .u8 (rd l0 (ji12))) := hS_
                obtain ⟨Ao68, co68, eo68⟩ := Kd.R_slice HO54010.out
                (first | subst eo68 | (injection eo68 with f1_ f2_ f3_; have f4_ := f1_.symm; have f5_ := f3_.symm; clear f1_ f2_ f3_; subst f4_; subst f5_))
                refine norm_ (a' := ?_) ?_ ?_
                rotate_left
                · simp only [putAll, Act.put, List.setIfInBounds_toArray, List.set_cons_zero, List.set_cons_succ]
                  rfl
                refine one_ (i := 18) (N := none) #[true, true, true, true, true, true, true, true, true, true, true, true, true, true, true, true, true, true, true] rfl rfl (one_of HT_.out (by kernel_rfl)) (by decide) (fun K hK => ?_)
                have hs69 : w67.cell? ⟨gb54011, 0, none⟩ = some (.int .i64 0) := (blk_cell BK54011.out 0).trans rfl
                have hfs69 := blk_frozen BK54011.out 0
                have hs70 : w67.cell? ⟨gb54011, 1, none⟩ = some (.slice none 0 0) := (blk_cell BK54011.out 1).trans rfl
                have hfs70 := blk_frozen BK54011.out 1
                refine skip_ (w1 := ?_) (by rfl) rfl ?_ ?_
                rotate_left
                · go_simp
                  rfl
                refine hK.out _ _ (((cell_far (p := ⟨gb54011, _, none⟩) (by first | exact Nat.ne_of_lt (Nat.lt_of_lt_of_le (by have := World.block_lt_of_cell? _ _ hw54003_0; first | rwa [add_block] at this | exact this) GW54011.out) | (rw [add_block]; exact Nat.ne_of_lt (Nat.lt_of_lt_of_le (by have := World.block_lt_of_cell? _ _ hw54003_0; first | rwa [add_block] at this | exact this) GW54011.out)) | (show (Addr.add _ _).block ≠ _; rw [add_block]; exact Nat.ne_of_lt (Nat.lt_of_lt_of_le (by have := World.block_lt_of_cell? _ _ hw54003_0; first | rwa [add_block] at this | exact this) GW54011.out)) | (dsimp only; exact Nat.ne_of_lt (Nat.lt_of_lt_of_le (by have := World.block_lt_of_cell? _ _ hw54003_0; first | rwa [add_block] at this | exact this) GW54011.out))) _).trans (((cell_far (p := ⟨gb54011, _, none⟩) (by first | exact Nat.ne_of_lt (Nat.lt_of_lt_of_le (by have := World.block_lt_of_cell? _ _ hw54003_0; first | rwa [add_block] at this | exact this) GW54011.out) | (rw [add_block]; exact Nat.ne_of_lt (Nat.lt_of_lt_of_le (by have := World.block_lt_of_cell? _ _ hw54003_0; first | rwa [add_block] at this | exact this) GW54011.out)) | (show (Addr.add _ _).block ≠ _; rw [add_block]; exact Nat.ne_of_lt (Nat.lt_of_lt_of_le (by have := World.block_lt_of_cell? _ _ hw54003_0; first | rwa [add_block] at this | exact this) GW54011.out)) | (dsimp only; exact Nat.ne_of_lt (Nat.lt_of_lt_of_le (by have := World.block_lt_of_cell? _ _ hw54003_0; first | rwa [add_block] at this | exact this) GW54011.out))) _).trans (hHeld))))) (fun hHeld => ?_)
                clear hK K
                refine done_ (done_of HT_.out (by kernel_rfl)) ?_
                have hcz71_0 : w67.cell? ⟨gb54011, 0, none⟩ = some (.int .i64 0) := (blk_cell BK54011.out 0).trans rfl
                have hcz71_1 : w67.cell? ⟨gb54011, 1, none⟩ = some (.slice none 0 0) := (blk_cell BK54011.out 1).trans rfl
                have hfz71_0 := blk_frozen BK54011.out 0
                have hfz71_1 := blk_frozen BK54011.out 1
                try go_wp2_with (first | ((with_reducible refine gate_callee (f := 52) rfl ?_); refine goesL_ (some 58) rfl rfl Try.func52 (by kernel_rfl) rfl #[.agg #[.int .i64 (wrap64 (rd l0 (ji12))), .slice Ao68 y54008.length co68]] rfl (by (try simp only [List.map_toArray, List.map_cons, List.map_nil]); first | done | (simp only [hji12]; rfl) | rfl | (simp only [List.length_drop, List.length_take]; rfl)) ?_; (with_reducible refine (customsref33_Encode.calls kj7 (wrap64 (rd l0 (ji12))) _ _ y54008 t54012 t54015 _ ?side1 ?side2 A20.out).mono ?_); (case side1 => refine (Kd.R_reads' (e := 5) (base := w.heap.size) (ok := fun k_ => True) (n := y54008.length) (c := co68) ?_).2.2; exact (Kd.R_ext ((Kd.R_mono (Kd.R_far (p := ⟨gb54011, 1, none⟩) (Kd.R_far (p := ⟨gb54011, 0, none⟩) (Kd.R_types HO54010.out BK54011.out (by decide)) (fun _ hk => hk.2) (.int .i64 (wrap64 (rd l0 (ji12))))) (fun _ hk => hk.2) (.slice Ao68 y54008.length co68)) (fun _ h_ => h_.1))))); (case side2 => exact (Kd.R_reads' HO54010.out).2.1); rintro e w72 ⟨v54013, rfl, ho0, hb⟩; refine ⟨_, rfl, ?_⟩; have n0_ := Aside0.mk (Kd.S_elder' (Kd.S_ext ((Kd.S_mono (Kd.S_far (p := ⟨gb54011, 1, none⟩) (Kd.S_far (p := ⟨gb54011, 0, none⟩) (Kd.S_mono HO_4.out (fun k_ hk => (⟨hk, hk.2⟩ : _ ∧ k_ ≠ gb54011))) (fun _ hk => hk.2) (.int .i64 (wrap64 (rd l0 (ji12))))) (fun _ hk => hk.2) (.slice Ao68 y54008.length co68)) (fun _ h_ => h_.1)))) (Kd.R_base ho0) hb); have n1_ := Aside0.mk (Kd.R_elder' (Kd.R_ext ((Kd.R_mono (Kd.R_far (p := ⟨gb54011, 1, none⟩) (Kd.R_far (p := ⟨gb54011, 0, none⟩) (Kd.R_types HO54010.out BK54011.out (by decide)) (fun _ hk => hk.2) (.int .i64 (wrap64 (rd l0 (ji12))))) (fun _ hk => hk.2) (.slice Ao68 y54008.length co68)) (fun _ h_ => h_.1)))) (Kd.R_base ho0) hb); have n2_ := Aside0.mk (Kd.R_lower (Kd.R_new' ho0 (Kd.R_lt (Kd.R_ext ((Kd.R_mono (Kd.R_far (p := ⟨gb54011, 1, none⟩) (Kd.R_far (p := ⟨gb54011, 0, none⟩) (Kd.R_types HO54010.out BK54011.out (by decide)) (fun _ hk => hk.2) (.int .i64 (wrap64 (rd l0 (ji12))))) (fun _ hk => hk.2) (.slice Ao68 y54008.length co68)) (fun _ h_ => h_.1)))))) (below_size (below_extB HB.out))); have n3_ := Aside0.mk (blk_below (g := gb54011) (o := .cells #[.int .i64 (wrap64 (rd l0 (ji12))), .slice Ao68 y54008.length co68] 57 (0, 0)) (by (with_reducible repeat (first | refine blk_drewN ?_ _ | refine blk_drew ?_ | refine blk_alloc ?_ _)); refine blk_put (cs := #[.int .i64 (wrap64 (rd l0 (ji12))), .slice none 0 0]) ?_ 1 _ rfl; (with_reducible repeat (first | refine blk_drewN ?_ _ | refine blk_drew ?_ | refine blk_alloc ?_ _)); refine blk_put (cs := #[.int .i64 0, .slice none 0 0]) ?_ 0 _ rfl; exact blk_ext BK54011.out) hb); have n4_ := Aside0.mk (below_step (below_extB HB.out) hb); clear HO_4; clear HO54010; clear BK54011; clear HB; have HO_4 := n0_; have HO54010 := n1_; have HO54014 := n2_; have BK54011 := n3_; have HB := n4_; clear n0_ n1_ n2_ n3_ n4_; (try clear hb); (try clear hb2); (try clear hk); (try clear hi); (try clear ho0)))
                go_ret2
                exact ⟨_, by first | rfl | (simp [errW_none, errW_some] <;> rfl) | (simp only [← hji5, ← hji12, ← hji15]; first | rfl | (simp [errW_none, errW_some] <;> rfl)) | (simp [*, errW_none, errW_some] <;> rfl), Kd.S_ext (Kd.S_mono HO_4.out (fun _ hk => trivial)), below_extB HB.out⟩
      · rw [if_neg c2] at H
        have c2b0 : decide ((wrap64 (x5_1 + 9)) ≤ (l0.length : Int)) = false := decide_eq_false c2
        clear c2
        simp only [Option.some.injEq, Prod.mk.injEq] at H
        obtain ⟨rfl, rfl⟩ := H
        go_wp2
        go_ret2
        exact ⟨_, by first | rfl | (simp [errW_none, errW_some] <;> rfl) | (simp [*, errW_none, errW_some] <;> rfl), Kd.S_ext HO_4.out, below_ext HB.out⟩

end Go.Proofs.Ytfljnggpnndmkaa.Z
