/- Written by a program of this session: each Go function as a plain Lean function, and that the machine's call does what it says. Conditions: none but those each theorem states. -/
import Derived.Test.YtfljnggpnndmkaaZ0
import Derived.Test.YtfljnggpnndmkaaZjournalknown
import Derived.Test.YtfljnggpnndmkaaZjournalsum
namespace Go.Proofs.Ytfljnggpnndmkaa.Z
open Go.RowKit Go.Proofs.YtfljnggpnndmkaaW.PrintWords Go.Proofs.YtfljnggpnndmkaaW.PrintLast Go.Proofs.YtfljnggpnndmkaaW.PrintMore
attribute [local go_sem] max2_int min2_int max_two min_two max_three min_three max_four min_four   -- for this text's walks alone
set_option linter.unusedVariables false
set_option linter.unusedSimpArgs false

/-! ### journal_Scan: function 53 -/
mutual
def journal_Scan.l0 : Nat → List Int → List (S57) → Int → Option ((List (S57)) × Int)
  | 0, _, _, _ => none
  | k + 1, x0, x4, x5 => if (wrap64 ((x0.length : Int) - x5)) ≥ 9 then (if 0 ≤ x5 then (if x5 ≤ (x0.length : Int) then (if 0 < ((x0.drop (x5 : Int).toNat).length : Int) then (if 1 < ((x0.drop (x5 : Int).toNat).length : Int) then (if 2 < ((x0.drop (x5 : Int).toNat).length : Int) then (if 3 < ((x0.drop (x5 : Int).toNat).length : Int) then (if 4 < ((x0.drop (x5 : Int).toNat).length : Int) then (if (wrap64 ((Go.bits .or .i64 (wrap64 ((wrap64 (rd (x0.drop (x5 : Int).toNat) 0)) * 256)) (wrap64 (rd (x0.drop (x5 : Int).toNat) 1))) + (Go.bits .or .i64 (wrap64 ((wrap64 (rd (x0.drop (x5 : Int).toNat) 2)) * 256)) (wrap64 (rd (x0.drop (x5 : Int).toNat) 3))))) = 65535 then (if (Go.bits .or .i64 (wrap64 ((wrap64 (rd (x0.drop (x5 : Int).toNat) 0)) * 256)) (wrap64 (rd (x0.drop (x5 : Int).toNat) 1))) > 60000 then (journal_Scan.j1 k x0 x4 x5 (x0.drop (x5 : Int).toNat) (Go.bits .or .i64 (wrap64 ((wrap64 (rd (x0.drop (x5 : Int).toNat) 0)) * 256)) (wrap64 (rd (x0.drop (x5 : Int).toNat) 1))) (wrap64 (rd (x0.drop (x5 : Int).toNat) 4)) true) else ((journal_known.f (wrap64 (rd (x0.drop (x5 : Int).toNat) 4))).bind fun t53007 => (if t53007 = true then (journal_Scan.j1 k x0 x4 x5 (x0.drop (x5 : Int).toNat) (Go.bits .or .i64 (wrap64 ((wrap64 (rd (x0.drop (x5 : Int).toNat) 0)) * 256)) (wrap64 (rd (x0.drop (x5 : Int).toNat) 1))) (wrap64 (rd (x0.drop (x5 : Int).toNat) 4)) (decide (((x0.drop (x5 : Int).toNat).length : Int) < (wrap64 ((wrap64 (5 + (Go.bits .or .i64 (wrap64 ((wrap64 (rd (x0.drop (x5 : Int).toNat) 0)) * 256)) (wrap64 (rd (x0.drop (x5 : Int).toNat) 1))))) + 4))))) else (journal_Scan.j1 k x0 x4 x5 (x0.drop (x5 : Int).toNat) (Go.bits .or .i64 (wrap64 ((wrap64 (rd (x0.drop (x5 : Int).toNat) 0)) * 256)) (wrap64 (rd (x0.drop (x5 : Int).toNat) 1))) (wrap64 (rd (x0.drop (x5 : Int).toNat) 4)) true)))) else (journal_Scan.j1 k x0 x4 x5 (x0.drop (x5 : Int).toNat) (Go.bits .or .i64 (wrap64 ((wrap64 (rd (x0.drop (x5 : Int).toNat) 0)) * 256)) (wrap64 (rd (x0.drop (x5 : Int).toNat) 1))) (wrap64 (rd (x0.drop (x5 : Int).toNat) 4)) true)) else (none)) else (none)) else (none)) else (none)) else (none)) else (none)) else (none)) else (some (x4, x5))
def journal_Scan.j1 : Nat → List Int → List (S57) → Int → List Int → Int → Int → Bool → Option ((List (S57)) × Int)
  | 0, _, _, _, _, _, _, _ => none
  | k + 1, x0, x4, x5, x6, x7, x9, x64 => if x64 = true then (some (x4, x5)) else (if 0 ≤ (wrap64 (5 + x7)) then (if (wrap64 (5 + x7)) ≤ (x6.length : Int) then ((journal_sum.f k (x6.take ((wrap64 (5 + x7)) : Int).toNat)).bind fun t53009 => (journal_Scan.l1 k x0 x4 x5 x6 x7 x9 t53009 (t53009.length : Int) 0)) else (none)) else (none))
def journal_Scan.l1 : Nat → List Int → List (S57) → Int → List Int → Int → Int → List Int → Int → Int → Option ((List (S57)) × Int)
  | 0, _, _, _, _, _, _, _, _, _ => none
  | k + 1, x0, x4, x5, x6, x7, x9, x69, x70, x71 => if x71 < x70 then (if 0 ≤ x71 then (if x71 < (x69.length : Int) then (if 0 ≤ (wrap64 ((wrap64 (5 + x7)) + x71)) then (if (wrap64 ((wrap64 (5 + x7)) + x71)) < (x6.length : Int) then (if (rd x6 (wrap64 ((wrap64 (5 + x7)) + x71))) = (rd x69 x71) then (journal_Scan.l1 k x0 x4 x5 x6 x7 x9 x69 x70 (wrap64 (x71 + 1))) else (some (x4, x5))) else (none)) else (none)) else (none)) else (none)) else ((some (([] : List Int) : List Int)).bind fun y53014 => (if 5 ≤ (wrap64 (5 + x7)) then (if (wrap64 (5 + x7)) ≤ (x6.length : Int) then (if y53014.length + ((x6.take ((wrap64 (5 + x7)) : Int).toNat).drop 5).length < 140737488355328 then (if x4.length < 4398046511104 then (journal_Scan.l0 k x0 (x4 ++ [(⟨x9, (y53014 ++ ((x6.take ((wrap64 (5 + x7)) : Int).toNat).drop 5))⟩ : S57)]) (wrap64 (x5 + (wrap64 ((wrap64 (5 + x7)) + 4))))) else (none)) else (none)) else (none)) else (none)))
end
def journal_Scan.f (k : Nat) (l0 : List Int) : Option ((List (S57)) × Int) := journal_Scan.l0 k l0 ([] : List (S57)) 0
theorem journal_Scan.mono_l : ∀ k, (∀ y0 y1 y2, LeO (journal_Scan.l0 k y0 y1 y2) (journal_Scan.l0 (k + 1) y0 y1 y2)) ∧ (∀ y0 y1 y2 y3 y4 y5 y6, LeO (journal_Scan.j1 k y0 y1 y2 y3 y4 y5 y6) (journal_Scan.j1 (k + 1) y0 y1 y2 y3 y4 y5 y6)) ∧ (∀ y0 y1 y2 y3 y4 y5 y6 y7 y8, LeO (journal_Scan.l1 k y0 y1 y2 y3 y4 y5 y6 y7 y8) (journal_Scan.l1 (k + 1) y0 y1 y2 y3 y4 y5 y6 y7 y8))
  | 0 => ⟨fun _ _ _ r h => by simp [journal_Scan.l0] at h, fun _ _ _ _ _ _ _ r h => by simp [journal_Scan.j1] at h, fun _ _ _ _ _ _ _ _ _ r h => by simp [journal_Scan.l1] at h⟩
  | k + 1 => by
    obtain ⟨ih0, ih1, ih2⟩ := journal_Scan.mono_l k
    refine ⟨?_, ?_, ?_⟩
    · intro y0 y1 y2
      unfold journal_Scan.l0
      repeat' first
      | (with_reducible exact ih0 _ _ _)
      | (with_reducible exact ih1 _ _ _ _ _ _ _)
      | (with_reducible exact ih2 _ _ _ _ _ _ _ _ _)
      | (with_reducible exact journal_sum.mono _ _)
      | (with_reducible exact LeO.refl _)
      | (with_reducible exact LeO.none _)
      | (with_reducible refine LeO.ite ?_ ?_)
      | (with_reducible refine LeO.bind ?_ (fun _ => ?_))
      | exact ih0 _ _ _
      | exact ih1 _ _ _ _ _ _ _
      | exact ih2 _ _ _ _ _ _ _ _ _
      | exact journal_sum.mono _ _
      | exact LeO.none _
      | refine LeO.ite ?_ ?_
      | refine LeO.bind ?_ (fun _ => ?_)
    · intro y0 y1 y2 y3 y4 y5 y6
      unfold journal_Scan.j1
      repeat' first
      | (with_reducible exact ih0 _ _ _)
      | (with_reducible exact ih1 _ _ _ _ _ _ _)
      | (with_reducible exact ih2 _ _ _ _ _ _ _ _ _)
      | (with_reducible exact journal_sum.mono _ _)
      | (with_reducible exact LeO.refl _)
      | (with_reducible exact LeO.none _)
      | (with_reducible refine LeO.ite ?_ ?_)
      | (with_reducible refine LeO.bind ?_ (fun _ => ?_))
      | exact ih0 _ _ _
      | exact ih1 _ _ _ _ _ _ _
      | exact ih2 _ _ _ _ _ _ _ _ _
      | exact journal_sum.mono _ _
      | exact LeO.none _
      | refine LeO.ite ?_ ?_
      | refine LeO.bind ?_ (fun _ => ?_)
    · intro y0 y1 y2 y3 y4 y5 y6 y7 y8
      unfold journal_Scan.l1
      repeat' first
      | (with_reducible exact ih0 _ _ _)
      | (with_reducible exact ih1 _ _ _ _ _ _ _)
      | (with_reducible exact ih2 _ _ _ _ _ _ _ _ _)
      | (with_reducible exact journal_sum.mono _ _)
      | (with_reducible exact LeO.refl _)
      | (with_reducible exact LeO.none _)
      | (with_reducible refine LeO.ite ?_ ?_)
      | (with_reducible refine LeO.bind ?_ (fun _ => ?_))
      | exact ih0 _ _ _
      | exact ih1 _ _ _ _ _ _ _
      | exact ih2 _ _ _ _ _ _ _ _ _
      | exact journal_sum.mono _ _
      | exact LeO.none _
      | refine LeO.ite ?_ ?_
      | refine LeO.bind ?_ (fun _ => ?_)
theorem journal_Scan.mono : ∀ a0 k, LeO (journal_Scan.f k a0) (journal_Scan.f (k + 1) a0) := by
  intro a0 k
  obtain ⟨ih0, ih1, ih2⟩ := journal_Scan.mono_l k
  unfold journal_Scan.f
  repeat' first
      | (with_reducible exact ih0 _ _ _)
      | (with_reducible exact ih1 _ _ _ _ _ _ _)
      | (with_reducible exact ih2 _ _ _ _ _ _ _ _ _)
      | (with_reducible exact journal_sum.mono _ _)
      | (with_reducible exact LeO.refl _)
      | (with_reducible exact LeO.none _)
      | (with_reducible refine LeO.ite ?_ ?_)
      | (with_reducible refine LeO.bind ?_ (fun _ => ?_))
      | exact ih0 _ _ _
      | exact ih1 _ _ _ _ _ _ _
      | exact ih2 _ _ _ _ _ _ _ _ _
      | exact journal_sum.mono _ _
      | exact LeO.none _
      | refine LeO.ite ?_ ?_
      | refine LeO.bind ?_ (fun _ => ?_)
set_option maxHeartbeats 8000000 in
set_option maxRecDepth 100000 in
theorem journal_Scan.calls (k : Nat) (A0 : Option Addr) (c0 : Nat) (l0 : List Int) (r1 : List (S57)) (r2 : Int) (w : World) (hr0 : Kd.C (Kd.int .u8) w A0 l0.length l0) (hc0 : l0.length ≤ c0) (h : journal_Scan.f k l0 = some (r1, r2)) :
    Calls Try.prog 53 #[.slice A0 l0.length c0] w fun e w' => ∃ v0_ : Value, e = .returned (.tuple #[v0_, .int .i64 r2]) ∧ Kd.S k57 57 w' w.heap.size (fun _ => True) v0_ r1 ∧ Below w.heap.size w w' := by
  have hu57 := Try.underlying57
  have HR0 := Aside0.mk hr0
  have HC0 := Aside0.mk hc0
  clear hr0 hc0
  have HB := Aside0.mk (Below.refl w.heap.size w)
  have H : (journal_Scan.l0 k l0 ([] : List (S57)) 0) = some (r1, r2) := h
  clear h
  go_enter Try.func53, Try.ntmps53
  go_wp2
  repeat (go_quiet (fail); try go_wp2)
  go_step3
  go_wp2
  repeat (go_quiet (fail); try go_wp2)
  go_step3
  have H' := Aside0.mk H
  clear H
  go_wp2
  repeat (go_quiet (fail); try go_wp2)
  go_loopg [4, 5] k (fun kq v4 v5 w' => ∃ (x4_1 : List (S57)) (x5_1 : Int), v5 = .int .i64 x5_1 ∧ Aside0 (journal_Scan.l0 kq l0 x4_1 x5_1 = some (r1, r2)) ∧ Aside0 (kq ≤ k) ∧ Aside0 (Kd.S k57 57 w' w.heap.size (fun _ => True) v4 x4_1) ∧ Aside0 (Below w.heap.size w w'))
  case atStart => exact ⟨(([] : List (S57))), (0), (by first | rfl | (simp; done) | (simp [*]; done)), H', ⟨Nat.le_refl _⟩, ⟨by first | exact Kd.S_nil _ _ _ _ _ | exact Kd.N_nil _ _ _ _ _ | exact Kd.V_nil _ _ _ _ _ | exact Kd.Q_nil _ _ _ _ _ | exact Kd.R_nil _ _ _ _ _⟩, ⟨below_ext HB.out⟩⟩
  case round =>
    clear H'
    obtain ⟨x4_1, x5_1, rfl, HA, HK1, HO_4, HB⟩ := hrel
    cases gk with
    | zero => exact absurd HA.out (by simp [journal_Scan.l0])
    | succ k1 =>
      have H := HA.out
      clear HA
      simp only [journal_Scan.l0] at H
      by_cases c2 : (wrap64 ((l0.length : Int) - x5_1)) ≥ 9
      · rw [if_pos c2] at H
        have c2b0 : decide (9 ≤ (wrap64 ((l0.length : Int) - x5_1))) = true := decide_eq_true c2
        clear c2
        replace H := if_some H; obtain ⟨c3, H⟩ := H
        have c3b0 := eq_true c3
        have c3b1 : decide (0 ≤ x5_1) = true := decide_eq_true c3
        clear c3
        replace H := if_some H; obtain ⟨c4, H⟩ := H
        have c4b0 := eq_true c4
        have c4b1 : decide (x5_1 ≤ (l0.length : Int)) = true := decide_eq_true c4
        clear c4
        replace H := if_some H; obtain ⟨c5, H⟩ := H
        have c5b0 : decide (0 < ((l0.drop (x5_1 : Int).toNat).length : Int)) = true := decide_eq_true c5
        have c5b1 : decide (0 < (l0.drop (x5_1 : Int).toNat).length) = true := decide_eq_true (by omega)
        clear c5
        replace H := if_some H; obtain ⟨c6, H⟩ := H
        have c6b0 : decide (1 < ((l0.drop (x5_1 : Int).toNat).length : Int)) = true := decide_eq_true c6
        have c6b1 : decide (1 < (l0.drop (x5_1 : Int).toNat).length) = true := decide_eq_true (by omega)
        clear c6
        replace H := if_some H; obtain ⟨c7, H⟩ := H
        have c7b0 : decide (2 < ((l0.drop (x5_1 : Int).toNat).length : Int)) = true := decide_eq_true c7
        have c7b1 : decide (2 < (l0.drop (x5_1 : Int).toNat).length) = true := decide_eq_true (by omega)
        clear c7
        replace H := if_some H; obtain ⟨c8, H⟩ := H
        have c8b0 : decide (3 < ((l0.drop (x5_1 : Int).toNat).length : Int)) = true := decide_eq_true c8
        have c8b1 : decide (3 < (l0.drop (x5_1 : Int).toNat).length) = true := decide_eq_true (by omega)
        clear c8
        replace H := if_some H; obtain ⟨c9, H⟩ := H
        have c9b0 : decide (4 < ((l0.drop (x5_1 : Int).toNat).length : Int)) = true := decide_eq_true c9
        have c9b1 : decide (4 < (l0.drop (x5_1 : Int).toNat).length) = true := decide_eq_true (by omega)
        clear c9
        have HC10 := Aside0.mk H
        clear H
        obtain ⟨i011, hi011, _, hsz11, _⟩ := info_parts info5
        obtain ⟨A11, hcut11, hA11, hC11⟩ := print_drop_of (P := Try.prog) (Value.int .u8) 0 22 5 .i64 Try.underlying22 hi011 hsz11 A0 c0 l0 x5_1 (of_decide_eq_true (by first | (with_reducible assumption) | assumption)) (of_decide_eq_true (by first | (with_reducible assumption) | assumption)) HC0.out
        have HR53001 := Aside0.mk (Kd.C_of_reads (h1 := fun _ => rfl) (hA11 _ (Kd.reads_of_C HR0.out)))
        have HC53001 := Aside0.mk hC11
        clear hA11 hC11 hi011 hsz11
        have p53002 : 0 ≤ (0 : Int) := (by omega)
        have q53002 : 0 < ((l0.drop (x5_1 : Int).toNat).length : Int) := of_decide_eq_true (by first | (with_reducible assumption) | assumption)
        obtain ⟨ad53002, e53002, hx53002_0⟩ := Kd.at_int HR53001.out 0 p53002 q53002
        cases e53002
        have qi53002 : (0 < (l0.drop (x5_1 : Int).toNat).length) = True := eq_true (by omega)
        (try rw [show ((0 : Int)).toNat = 0 from rfl] at hx53002_0)
        (try rw [Addr.add_zero'] at hx53002_0)
        replace hx53002_0 := (HB.out.cell (World.block_lt_of_cell? w _ hx53002_0)).trans hx53002_0
        (try (have qv53002 := eq_true q53002; simp only [List.length_drop] at qv53002))
        (try (have qw53002 := qi53002; simp only [List.length_drop] at qw53002))
        replace p53002 := eq_true p53002
        replace q53002 := eq_true q53002
        have p53003 : 0 ≤ (1 : Int) := (by omega)
        have q53003 : 1 < ((l0.drop (x5_1 : Int).toNat).length : Int) := of_decide_eq_true (by first | (with_reducible assumption) | assumption)
        obtain ⟨ad53003, e53003, hx53003_0⟩ := Kd.at_int HR53001.out 1 p53003 q53003
        obtain rfl : ad53002 = ad53003 := (by injection e53003)
        (try simp only [show (1 : Int).toNat = 1 from rfl, Nat.reduceMul, Nat.reduceEqDiff, Go.Addr.add, ↓reduceIte] at hx53003_0)
        have qi53003 : (1 < (l0.drop (x5_1 : Int).toNat).length) = True := eq_true (by omega)
        (try rw [show ((1 : Int)).toNat = 1 from rfl] at hx53003_0)
        replace hx53003_0 := (HB.out.cell (World.block_lt_of_cell? w _ hx53003_0)).trans hx53003_0
        (try (have qv53003 := eq_true q53003; simp only [List.length_drop] at qv53003))
        (try (have qw53003 := qi53003; simp only [List.length_drop] at qw53003))
        replace p53003 := eq_true p53003
        replace q53003 := eq_true q53003
        have p53004 : 0 ≤ (2 : Int) := (by omega)
        have q53004 : 2 < ((l0.drop (x5_1 : Int).toNat).length : Int) := of_decide_eq_true (by first | (with_reducible assumption) | assumption)
        obtain ⟨ad53004, e53004, hx53004_0⟩ := Kd.at_int HR53001.out 2 p53004 q53004
        obtain rfl : ad53002 = ad53004 := (by injection e53004)
        (try simp only [show (2 : Int).toNat = 2 from rfl, Nat.reduceMul, Nat.reduceEqDiff, Go.Addr.add, ↓reduceIte] at hx53004_0)
        have qi53004 : (2 < (l0.drop (x5_1 : Int).toNat).length) = True := eq_true (by omega)
        (try rw [show ((2 : Int)).toNat = 2 from rfl] at hx53004_0)
        replace hx53004_0 := (HB.out.cell (World.block_lt_of_cell? w _ hx53004_0)).trans hx53004_0
        (try (have qv53004 := eq_true q53004; simp only [List.length_drop] at qv53004))
        (try (have qw53004 := qi53004; simp only [List.length_drop] at qw53004))
        replace p53004 := eq_true p53004
        replace q53004 := eq_true q53004
        have p53005 : 0 ≤ (3 : Int) := (by omega)
        have q53005 : 3 < ((l0.drop (x5_1 : Int).toNat).length : Int) := of_decide_eq_true (by first | (with_reducible assumption) | assumption)
        obtain ⟨ad53005, e53005, hx53005_0⟩ := Kd.at_int HR53001.out 3 p53005 q53005
        obtain rfl : ad53002 = ad53005 := (by injection e53005)
        (try simp only [show (3 : Int).toNat = 3 from rfl, Nat.reduceMul, Nat.reduceEqDiff, Go.Addr.add, ↓reduceIte] at hx53005_0)
        have qi53005 : (3 < (l0.drop (x5_1 : Int).toNat).length) = True := eq_true (by omega)
        (try rw [show ((3 : Int)).toNat = 3 from rfl] at hx53005_0)
        replace hx53005_0 := (HB.out.cell (World.block_lt_of_cell? w _ hx53005_0)).trans hx53005_0
        (try (have qv53005 := eq_true q53005; simp only [List.length_drop] at qv53005))
        (try (have qw53005 := qi53005; simp only [List.length_drop] at qw53005))
        replace p53005 := eq_true p53005
        replace q53005 := eq_true q53005
        have p53006 : 0 ≤ (4 : Int) := (by omega)
        have q53006 : 4 < ((l0.drop (x5_1 : Int).toNat).length : Int) := of_decide_eq_true (by first | (with_reducible assumption) | assumption)
        obtain ⟨ad53006, e53006, hx53006_0⟩ := Kd.at_int HR53001.out 4 p53006 q53006
        obtain rfl : ad53002 = ad53006 := (by injection e53006)
        (try simp only [show (4 : Int).toNat = 4 from rfl, Nat.reduceMul, Nat.reduceEqDiff, Go.Addr.add, ↓reduceIte] at hx53006_0)
        have qi53006 : (4 < (l0.drop (x5_1 : Int).toNat).length) = True := eq_true (by omega)
        (try rw [show ((4 : Int)).toNat = 4 from rfl] at hx53006_0)
        replace hx53006_0 := (HB.out.cell (World.block_lt_of_cell? w _ hx53006_0)).trans hx53006_0
        (try (have qv53006 := eq_true q53006; simp only [List.length_drop] at qv53006))
        (try (have qw53006 := qi53006; simp only [List.length_drop] at qw53006))
        replace p53006 := eq_true p53006
        replace q53006 := eq_true q53006
        go_upto_region 6 with (fail)
        repeat (go_quiet (fail); go_upto_region 6 with (fail))
        go_cut [64] (fun v64 wc => ∃ (kq : Nat) (x64_9 : Bool), v64 = .bool x64_9 ∧ Aside0 (journal_Scan.j1 kq l0 x4_1 x5_1 (l0.drop (x5_1 : Int).toNat) (Go.bits .or .i64 (wrap64 ((wrap64 (rd (l0.drop (x5_1 : Int).toNat) 0)) * 256)) (wrap64 (rd (l0.drop (x5_1 : Int).toNat) 1))) (wrap64 (rd (l0.drop (x5_1 : Int).toNat) 4)) x64_9 = some (r1, r2)) ∧ Aside0 (kq ≤ k1) ∧ Aside0 (Kd.S k57 57 wc w.heap.size (fun _ => True) u4 x4_1) ∧ Aside0 (Below w.heap.size w wc))
        case first =>
          have H := HC10.out
          clear HC10
          by_cases c12 : (wrap64 ((Go.bits .or .i64 (wrap64 ((wrap64 (rd (l0.drop (x5_1 : Int).toNat) 0)) * 256)) (wrap64 (rd (l0.drop (x5_1 : Int).toNat) 1))) + (Go.bits .or .i64 (wrap64 ((wrap64 (rd (l0.drop (x5_1 : Int).toNat) 2)) * 256)) (wrap64 (rd (l0.drop (x5_1 : Int).toNat) 3))))) = 65535
          · rw [if_pos c12] at H
            have c12b0 : ((wrap64 ((Go.bits .or .i64 (wrap64 ((wrap64 (rd (l0.drop (x5_1 : Int).toNat) 0)) * 256)) (wrap64 (rd (l0.drop (x5_1 : Int).toNat) 1))) + (Go.bits .or .i64 (wrap64 ((wrap64 (rd (l0.drop (x5_1 : Int).toNat) 2)) * 256)) (wrap64 (rd (l0.drop (x5_1 : Int).toNat) 3))))) == 65535) = true := beq_iff_eq.mpr c12
            have c12b1 : ((wrap64 ((Go.bits .or .i64 (wrap64 ((wrap64 (rd (l0.drop (x5_1 : Int).toNat) 0)) * 256)) (wrap64 (rd (l0.drop (x5_1 : Int).toNat) 1))) + (Go.bits .or .i64 (wrap64 ((wrap64 (rd (l0.drop (x5_1 : Int).toNat) 2)) * 256)) (wrap64 (rd (l0.drop (x5_1 : Int).toNat) 3))))) != 65535) = false := bne_eq_false_iff_eq.mpr c12
            clear c12
            (first | rw [c12b0] | (simp only [i64_w, i32_w]; rw [c12b0]) | skip)
            by_cases c13 : (Go.bits .or .i64 (wrap64 ((wrap64 (rd (l0.drop (x5_1 : Int).toNat) 0)) * 256)) (wrap64 (rd (l0.drop (x5_1 : Int).toNat) 1))) > 60000
            · rw [if_pos c13] at H
              have c13b0 : decide (60000 < (Go.bits .or .i64 (wrap64 ((wrap64 (rd (l0.drop (x5_1 : Int).toNat) 0)) * 256)) (wrap64 (rd (l0.drop (x5_1 : Int).toNat) 1)))) = true := decide_eq_true c13
              clear c13
              have H' := Aside0.mk H
              clear H
              go_wp2
              repeat (go_quiet (fail); try go_wp2)
              go_meet
              case rel => exact ⟨_, (true), (by first | rfl | (simp; done) | (simp [*]; done)), H', ⟨by have := HK1.out; first | omega | exact Nat.le_refl _⟩, ⟨Kd.S_ext HO_4.out⟩, ⟨below_ext HB.out⟩⟩
            · rw [if_neg c13] at H
              have c13b0 : decide (60000 < (Go.bits .or .i64 (wrap64 ((wrap64 (rd (l0.drop (x5_1 : Int).toNat) 0)) * 256)) (wrap64 (rd (l0.drop (x5_1 : Int).toNat) 1)))) = false := decide_eq_false c13
              clear c13
              replace H := Option.bind_eq_some_iff.mp H
              obtain ⟨t53007, A140, H⟩ := H
              replace H : (if t53007 = true then (journal_Scan.j1 k1 l0 x4_1 x5_1 (l0.drop (x5_1 : Int).toNat) (Go.bits .or .i64 (wrap64 ((wrap64 (rd (l0.drop (x5_1 : Int).toNat) 0)) * 256)) (wrap64 (rd (l0.drop (x5_1 : Int).toNat) 1))) (wrap64 (rd (l0.drop (x5_1 : Int).toNat) 4)) (decide (((l0.drop (x5_1 : Int).toNat).length : Int) < (wrap64 ((wrap64 (5 + (Go.bits .or .i64 (wrap64 ((wrap64 (rd (l0.drop (x5_1 : Int).toNat) 0)) * 256)) (wrap64 (rd (l0.drop (x5_1 : Int).toNat) 1))))) + 4))))) else (journal_Scan.j1 k1 l0 x4_1 x5_1 (l0.drop (x5_1 : Int).toNat) (Go.bits .or .i64 (wrap64 ((wrap64 (rd (l0.drop (x5_1 : Int).toNat) 0)) * 256)) (wrap64 (rd (l0.drop (x5_1 : Int).toNat) 1))) (wrap64 (rd (l0.drop (x5_1 : Int).toNat) 4)) true)) = some (r1, r2) := H
              have A14 := Aside0.mk A140
              clear A140
              by_cases c15 : t53007 = true
              · subst c15
                have H1 : (journal_Scan.j1 k1 l0 x4_1 x5_1 (l0.drop (x5_1 : Int).toNat) (Go.bits .or .i64 (wrap64 ((wrap64 (rd (l0.drop (x5_1 : Int).toNat) 0)) * 256)) (wrap64 (rd (l0.drop (x5_1 : Int).toNat) 1))) (wrap64 (rd (l0.drop (x5_1 : Int).toNat) 4)) (decide (((l0.drop (x5_1 : Int).toNat).length : Int) < (wrap64 ((wrap64 (5 + (Go.bits .or .i64 (wrap64 ((wrap64 (rd (l0.drop (x5_1 : Int).toNat) 0)) * 256)) (wrap64 (rd (l0.drop (x5_1 : Int).toNat) 1))))) + 4))))) = some (r1, r2) := by rw [if_pos rfl] at H; exact H
                clear H
                have H := H1
                clear H1
                have H' := Aside0.mk H
                clear H
                go_wp2_with (first | (go_at_call 75; (with_reducible refine (journal_known.calls (wrap64 (rd (l0.drop (x5_1 : Int).toNat) 4)) true _ A14.out).mono ?_); rintro e w' ⟨rfl, ⟨nd, rfl⟩⟩; (try first | exact ⟨rfl, _, World.drewN_drewN _ _ _⟩ | exact ⟨rfl, _, Eq.trans (World.drewN_drewN _ _ _) (congrArg (World.drewN _) (Nat.add_assoc _ _ _))⟩)))
                repeat (go_quiet (first | (go_at_call 75; (with_reducible refine (journal_known.calls (wrap64 (rd (l0.drop (x5_1 : Int).toNat) 4)) true _ A14.out).mono ?_); rintro e w' ⟨rfl, ⟨nd, rfl⟩⟩; (try first | exact ⟨rfl, _, World.drewN_drewN _ _ _⟩ | exact ⟨rfl, _, Eq.trans (World.drewN_drewN _ _ _) (congrArg (World.drewN _) (Nat.add_assoc _ _ _))⟩))); try go_wp2_with (first | (go_at_call 75; (with_reducible refine (journal_known.calls (wrap64 (rd (l0.drop (x5_1 : Int).toNat) 4)) true _ A14.out).mono ?_); rintro e w' ⟨rfl, ⟨nd, rfl⟩⟩; (try first | exact ⟨rfl, _, World.drewN_drewN _ _ _⟩ | exact ⟨rfl, _, Eq.trans (World.drewN_drewN _ _ _) (congrArg (World.drewN _) (Nat.add_assoc _ _ _))⟩))))
                go_meet
                case rel => exact ⟨_, (decide (((l0.drop (x5_1 : Int).toNat).length : Int) < (wrap64 ((wrap64 (5 + (Go.bits .or .i64 (wrap64 ((wrap64 (rd (l0.drop (x5_1 : Int).toNat) 0)) * 256)) (wrap64 (rd (l0.drop (x5_1 : Int).toNat) 1))))) + 4)))), (by first | rfl | (simp; done) | (simp [*]; done)), H', ⟨by have := HK1.out; first | omega | exact Nat.le_refl _⟩, ⟨Kd.S_ext HO_4.out⟩, ⟨below_ext HB.out⟩⟩
              · replace c15 := Bool.eq_false_iff.mpr c15
                subst c15
                have H1 : (journal_Scan.j1 k1 l0 x4_1 x5_1 (l0.drop (x5_1 : Int).toNat) (Go.bits .or .i64 (wrap64 ((wrap64 (rd (l0.drop (x5_1 : Int).toNat) 0)) * 256)) (wrap64 (rd (l0.drop (x5_1 : Int).toNat) 1))) (wrap64 (rd (l0.drop (x5_1 : Int).toNat) 4)) true) = some (r1, r2) := by rw [if_neg (show ¬ (false = true) by decide)] at H; exact H
                clear H
                have H := H1
                clear H1
                have H' := Aside0.mk H
                clear H
                go_wp2_with (first | (go_at_call 75; (with_reducible refine (journal_known.calls (wrap64 (rd (l0.drop (x5_1 : Int).toNat) 4)) false _ A14.out).mono ?_); rintro e w' ⟨rfl, ⟨nd, rfl⟩⟩; (try first | exact ⟨rfl, _, World.drewN_drewN _ _ _⟩ | exact ⟨rfl, _, Eq.trans (World.drewN_drewN _ _ _) (congrArg (World.drewN _) (Nat.add_assoc _ _ _))⟩)))
                repeat (go_quiet (first | (go_at_call 75; (with_reducible refine (journal_known.calls (wrap64 (rd (l0.drop (x5_1 : Int).toNat) 4)) false _ A14.out).mono ?_); rintro e w' ⟨rfl, ⟨nd, rfl⟩⟩; (try first | exact ⟨rfl, _, World.drewN_drewN _ _ _⟩ | exact ⟨rfl, _, Eq.trans (World.drewN_drewN _ _ _) (congrArg (World.drewN _) (Nat.add_assoc _ _ _))⟩))); try go_wp2_with (first | (go_at_call 75; (with_reducible refine (journal_known.calls (wrap64 (rd (l0.drop (x5_1 : Int).toNat) 4)) false _ A14.out).mono ?_); rintro e w' ⟨rfl, ⟨nd, rfl⟩⟩; (try first | exact ⟨rfl, _, World.drewN_drewN _ _ _⟩ | exact ⟨rfl, _, Eq.trans (World.drewN_drewN _ _ _) (congrArg (World.drewN _) (Nat.add_assoc _ _ _))⟩))))
                go_meet
                case rel => exact ⟨_, (true), (by first | rfl | (simp; done) | (simp [*]; done)), H', ⟨by have := HK1.out; first | omega | exact Nat.le_refl _⟩, ⟨Kd.S_ext HO_4.out⟩, ⟨below_ext HB.out⟩⟩
          · rw [if_neg c12] at H
            have c12b0 : ((wrap64 ((Go.bits .or .i64 (wrap64 ((wrap64 (rd (l0.drop (x5_1 : Int).toNat) 0)) * 256)) (wrap64 (rd (l0.drop (x5_1 : Int).toNat) 1))) + (Go.bits .or .i64 (wrap64 ((wrap64 (rd (l0.drop (x5_1 : Int).toNat) 2)) * 256)) (wrap64 (rd (l0.drop (x5_1 : Int).toNat) 3))))) == 65535) = false := beq_eq_false_iff_ne.mpr c12
            have c12b1 : ((wrap64 ((Go.bits .or .i64 (wrap64 ((wrap64 (rd (l0.drop (x5_1 : Int).toNat) 0)) * 256)) (wrap64 (rd (l0.drop (x5_1 : Int).toNat) 1))) + (Go.bits .or .i64 (wrap64 ((wrap64 (rd (l0.drop (x5_1 : Int).toNat) 2)) * 256)) (wrap64 (rd (l0.drop (x5_1 : Int).toNat) 3))))) != 65535) = true := bne_iff_ne.mpr c12
            (first | rw [c12b0] | (simp only [i64_w, i32_w]; rw [c12b0]) | skip)
            have H' := Aside0.mk H
            clear H
            go_wp2
            repeat (go_quiet (fail); try go_wp2)
            go_meet
            case rel => exact ⟨_, (true), (by first | rfl | (simp; done) | (simp [*]; done)), H', ⟨by have := HK1.out; first | omega | exact Nat.le_refl _⟩, ⟨Kd.S_ext HO_4.out⟩, ⟨below_ext HB.out⟩⟩
        case rest =>
          clear HC10
          try clear c1
          try clear c2
          try clear c2b0
          try clear p2
          try clear c3
          try clear c3b0
          try clear c3b1
          try clear p3
          try clear c4
          try clear c4b0
          try clear c4b1
          try clear c5
          try clear c5b0
          try clear c5b1
          try clear p5
          try clear q5
          try clear hx5
          try clear qi5
          try clear c6
          try clear c6b0
          try clear c6b1
          try clear p6
          try clear c7
          try clear c7b0
          try clear c7b1
          try clear c8
          try clear c8b0
          try clear c8b1
          try clear c9
          try clear c9b0
          try clear c9b1
          try clear c12
          try clear c12b0
          try clear c12b1
          try clear c13
          try clear c13b0
          try clear c15
          try clear hx53002_0
          try clear hx53003_0
          try clear hx53004_0
          try clear hx53005_0
          try clear hx53006_0
          try clear p53002
          try clear p53003
          try clear p53004
          try clear p53005
          try clear p53006
          try clear q53002
          try clear q53003
          try clear q53004
          try clear q53005
          try clear q53006
          obtain ⟨kq, x64_9, rfl, HA, HJ9, HO_4, HB⟩ := hcut
          cases kq with
          | zero => exact absurd HA.out (by simp [journal_Scan.j1])
          | succ kj9 =>
            have H := HA.out
            clear HA
            simp only [journal_Scan.j1] at H
            by_cases c16 : x64_9 = true
            · subst c16
              have H1 : (some (x4_1, x5_1)) = some (r1, r2) := by rw [if_pos rfl] at H; exact H
              clear H
              have H := H1
              clear H1
              simp only [Option.some.injEq, Prod.mk.injEq] at H
              obtain ⟨rfl, rfl⟩ := H
              go_wp2
              repeat (go_quiet (fail); try go_wp2)
              (try rw [Exit.noGoto_ret])
              go_ret2
              exact ⟨_, by first | rfl | (simp [errW_none, errW_some] <;> rfl) | (simp [*, errW_none, errW_some] <;> rfl), Kd.S_ext HO_4.out, below_ext HB.out⟩
            · replace c16 := Bool.eq_false_iff.mpr c16
              subst c16
              have H1 : (if 0 ≤ (wrap64 (5 + (Go.bits .or .i64 (wrap64 ((wrap64 (rd (l0.drop (x5_1 : Int).toNat) 0)) * 256)) (wrap64 (rd (l0.drop (x5_1 : Int).toNat) 1))))) then (if (wrap64 (5 + (Go.bits .or .i64 (wrap64 ((wrap64 (rd (l0.drop (x5_1 : Int).toNat) 0)) * 256)) (wrap64 (rd (l0.drop (x5_1 : Int).toNat) 1))))) ≤ ((l0.drop (x5_1 : Int).toNat).length : Int) then ((journal_sum.f kj9 ((l0.drop (x5_1 : Int).toNat).take ((wrap64 (5 + (Go.bits .or .i64 (wrap64 ((wrap64 (rd (l0.drop (x5_1 : Int).toNat) 0)) * 256)) (wrap64 (rd (l0.drop (x5_1 : Int).toNat) 1))))) : Int).toNat)).bind fun t53009 => (journal_Scan.l1 kj9 l0 x4_1 x5_1 (l0.drop (x5_1 : Int).toNat) (Go.bits .or .i64 (wrap64 ((wrap64 (rd (l0.drop (x5_1 : Int).toNat) 0)) * 256)) (wrap64 (rd (l0.drop (x5_1 : Int).toNat) 1))) (wrap64 (rd (l0.drop (x5_1 : Int).toNat) 4)) t53009 (t53009.length : Int) 0)) else (none)) else (none)) = some (r1, r2) := by rw [if_neg (show ¬ (false = true) by decide)] at H; exact H
              clear H
              have H := H1
              clear H1
              obtain ⟨ji17, hji17⟩ : ∃ j_ : Int, (wrap64 (5 + (Go.bits .or .i64 (wrap64 ((wrap64 (rd (l0.drop (x5_1 : Int).toNat) 0)) * 256)) (wrap64 (rd (l0.drop (x5_1 : Int).toNat) 1))))) = j_ := ⟨_, rfl⟩
              replace H : (if 0 ≤ (ji17) then (if (ji17) ≤ ((l0.drop (x5_1 : Int).toNat).length : Int) then ((journal_sum.f kj9 ((l0.drop (x5_1 : Int).toNat).take ((ji17) : Int).toNat)).bind fun t53009 => (journal_Scan.l1 kj9 l0 x4_1 x5_1 (l0.drop (x5_1 : Int).toNat) (Go.bits .or .i64 (wrap64 ((wrap64 (rd (l0.drop (x5_1 : Int).toNat) 0)) * 256)) (wrap64 (rd (l0.drop (x5_1 : Int).toNat) 1))) (wrap64 (rd (l0.drop (x5_1 : Int).toNat) 4)) t53009 (t53009.length : Int) 0)) else (none)) else (none)) = some (r1, r2) := by first | (rw [hji17] at H; exact H) | (simp only [hji17] at H ⊢; exact H)
              have hji17w : (IntKind.i64.wrap (5 + (Go.bits .or .i64 (wrap64 ((wrap64 (rd (l0.drop (x5_1 : Int).toNat) 0)) * 256)) (wrap64 (rd (l0.drop (x5_1 : Int).toNat) 1))))) = ji17 := (i64_w _).trans hji17
              replace H := if_some H; obtain ⟨c18, H⟩ := H
              have c18b0 := eq_true c18
              have c18b1 : decide (0 ≤ (ji17)) = true := decide_eq_true c18
              clear c18
              replace H := if_some H; obtain ⟨c19, H⟩ := H
              have c19b0 := eq_true c19
              have c19b1 : decide ((ji17) ≤ ((l0.drop (x5_1 : Int).toNat).length : Int)) = true := decide_eq_true c19
              clear c19
              replace H := Option.bind_eq_some_iff.mp H
              obtain ⟨t53009, A200, H⟩ := H
              replace H : (journal_Scan.l1 kj9 l0 x4_1 x5_1 (l0.drop (x5_1 : Int).toNat) (Go.bits .or .i64 (wrap64 ((wrap64 (rd (l0.drop (x5_1 : Int).toNat) 0)) * 256)) (wrap64 (rd (l0.drop (x5_1 : Int).toNat) 1))) (wrap64 (rd (l0.drop (x5_1 : Int).toNat) 4)) t53009 (t53009.length : Int) 0) = some (r1, r2) := H
              have A20 := Aside0.mk A200
              clear A200
              have H' := Aside0.mk H
              clear H
              obtain ⟨i021, hi021, _, hsz21, _⟩ := info_parts info5
              obtain ⟨hcut21, hA21, hC21⟩ := print_take_of (P := Try.prog) (Value.int .u8) 0 22 5 .i64 Try.underlying22 hi021 hsz21 (some ad53002) (c0 - x5_1.toNat) (l0.drop (x5_1 : Int).toNat) (ji17) (of_decide_eq_true (by first | (with_reducible assumption) | assumption)) (of_decide_eq_true (by first | (with_reducible assumption) | assumption)) HC53001.out
              have HR53008 := Aside0.mk (Kd.C_of_reads (h1 := fun _ => rfl) (hA21 _ (Kd.reads_of_C HR53001.out)))
              have HC53008 := Aside0.mk hC21
              clear hA21 hC21 hi021 hsz21
              (try (have hcuu21 := hcut21; rw [← drop_len l0 x5_1] at hcuu21))
              go_wp2_with (first | (go_at_call 76; refine calls_of_args (args' := #[.slice (some ad53002) ((l0.drop (x5_1 : Int).toNat).take ((ji17) : Int).toNat).length (c0 - x5_1.toNat)]) (by first | rfl | (rw [← take_len (l0.drop (x5_1 : Int).toNat) (ji17) (by assumption)]; done) | (simp only [List.length_take, List.length_drop]; done) | (rw [show ((l0.drop (x5_1 : Int).toNat).take ((ji17) : Int).toNat).length = (ji17).toNat from (by rw [List.length_take]; have h_ : ((ji17) : Int) ≤ ((l0.drop (x5_1 : Int).toNat).length : Int) := of_decide_eq_true (by first | (with_reducible assumption) | assumption); omega)]; simp only [List.length_take, List.length_drop])) ?_; (with_reducible refine (journal_sum.calls kj9 _ _ ((l0.drop (x5_1 : Int).toNat).take ((ji17) : Int).toNat) t53009 _ ?side1 ?side2 A20.out).mono ?_); (case side1 => repeat (first | exact (Kd.C_below HR53008.out HB.out) | (with_reducible refine Kd.C_alloc ?_ _) | (with_reducible refine Kd.C_drewN ?_ _) | (with_reducible refine Kd.C_drew ?_))); (case side2 => exact HC53008.out); rintro e w22 ⟨v53010, rfl, ho0, hb⟩; have n1_ := Aside0.mk (Kd.R_lower ho0 (below_size (below_ext HB.out))); have HO53011 := n1_; replace HO_4 := apS HO_4 hb (Kd.R_base ho0); replace HB := mvH HB hb; clear n1_; (try clear hb); (try clear hb2); (try clear hk); (try clear hi); (try clear ho0); obtain ⟨Ao23, co23, eo23⟩ := Kd.R_slice HO53011.out; subst eo23))
              repeat (go_quiet (first | (go_at_call 76; refine calls_of_args (args' := #[.slice (some ad53002) ((l0.drop (x5_1 : Int).toNat).take ((ji17) : Int).toNat).length (c0 - x5_1.toNat)]) (by first | rfl | (rw [← take_len (l0.drop (x5_1 : Int).toNat) (ji17) (by assumption)]; done) | (simp only [List.length_take, List.length_drop]; done) | (rw [show ((l0.drop (x5_1 : Int).toNat).take ((ji17) : Int).toNat).length = (ji17).toNat from (by rw [List.length_take]; have h_ : ((ji17) : Int) ≤ ((l0.drop (x5_1 : Int).toNat).length : Int) := of_decide_eq_true (by first | (with_reducible assumption) | assumption); omega)]; simp only [List.length_take, List.length_drop])) ?_; (with_reducible refine (journal_sum.calls kj9 _ _ ((l0.drop (x5_1 : Int).toNat).take ((ji17) : Int).toNat) t53009 _ ?side1 ?side2 A20.out).mono ?_); (case side1 => repeat (first | exact (Kd.C_below HR53008.out HB.out) | (with_reducible refine Kd.C_alloc ?_ _) | (with_reducible refine Kd.C_drewN ?_ _) | (with_reducible refine Kd.C_drew ?_))); (case side2 => exact HC53008.out); rintro e w22 ⟨v53010, rfl, ho0, hb⟩; have n1_ := Aside0.mk (Kd.R_lower ho0 (below_size (below_ext HB.out))); have HO53011 := n1_; replace HO_4 := apS HO_4 hb (Kd.R_base ho0); replace HB := mvH HB hb; clear n1_; (try clear hb); (try clear hb2); (try clear hk); (try clear hi); (try clear ho0); obtain ⟨Ao23, co23, eo23⟩ := Kd.R_slice HO53011.out; subst eo23)); try go_wp2_with (first | (go_at_call 76; refine calls_of_args (args' := #[.slice (some ad53002) ((l0.drop (x5_1 : Int).toNat).take ((ji17) : Int).toNat).length (c0 - x5_1.toNat)]) (by first | rfl | (rw [← take_len (l0.drop (x5_1 : Int).toNat) (ji17) (by assumption)]; done) | (simp only [List.length_take, List.length_drop]; done) | (rw [show ((l0.drop (x5_1 : Int).toNat).take ((ji17) : Int).toNat).length = (ji17).toNat from (by rw [List.length_take]; have h_ : ((ji17) : Int) ≤ ((l0.drop (x5_1 : Int).toNat).length : Int) := of_decide_eq_true (by first | (with_reducible assumption) | assumption); omega)]; simp only [List.length_take, List.length_drop])) ?_; (with_reducible refine (journal_sum.calls kj9 _ _ ((l0.drop (x5_1 : Int).toNat).take ((ji17) : Int).toNat) t53009 _ ?side1 ?side2 A20.out).mono ?_); (case side1 => repeat (first | exact (Kd.C_below HR53008.out HB.out) | (with_reducible refine Kd.C_alloc ?_ _) | (with_reducible refine Kd.C_drewN ?_ _) | (with_reducible refine Kd.C_drew ?_))); (case side2 => exact HC53008.out); rintro e w22 ⟨v53010, rfl, ho0, hb⟩; have n1_ := Aside0.mk (Kd.R_lower ho0 (below_size (below_ext HB.out))); have HO53011 := n1_; replace HO_4 := apS HO_4 hb (Kd.R_base ho0); replace HB := mvH HB hb; clear n1_; (try clear hb); (try clear hb2); (try clear hk); (try clear hi); (try clear ho0); obtain ⟨Ao23, co23, eo23⟩ := Kd.R_slice HO53011.out; subst eo23)))
              go_loopg [71] kj9 (fun kq v71 w' => ∃ (x71_3 : Int), v71 = .int .i64 x71_3 ∧ Aside0 (journal_Scan.l1 kq l0 x4_1 x5_1 (l0.drop (x5_1 : Int).toNat) (Go.bits .or .i64 (wrap64 ((wrap64 (rd (l0.drop (x5_1 : Int).toNat) 0)) * 256)) (wrap64 (rd (l0.drop (x5_1 : Int).toNat) 1))) (wrap64 (rd (l0.drop (x5_1 : Int).toNat) 4)) t53009 (t53009.length : Int) x71_3 = some (r1, r2)) ∧ Aside0 (kq ≤ kj9) ∧ Aside0 (Kd.S k57 57 w' w.heap.size (fun k_ => some k_ ≠ ((.slice Ao23 t53009.length co23) : Value).ownBlock) u4 x4_1) ∧ Aside0 (Kd.R (Kd.int .u8) 5 w' w.heap.size (fun _ => True) (.slice Ao23 t53009.length co23) t53009) ∧ Aside0 (Below w.heap.size w w'))
              case atStart => exact ⟨(0), (by first | rfl | (simp; done) | (simp [*]; done)), H', ⟨Nat.le_refl _⟩, ⟨Kd.S_ext (Kd.S_mono HO_4.out (fun _ hk => hk.2))⟩, ⟨Kd.R_ext HO53011.out⟩, ⟨below_ext HB.out⟩⟩
              case round =>
                clear H'
                try clear c1
                try clear c2
                try clear c2b0
                try clear p2
                try clear c3
                try clear c3b0
                try clear c3b1
                try clear p3
                try clear c4
                try clear c4b0
                try clear c4b1
                try clear c5
                try clear c5b0
                try clear c5b1
                try clear p5
                try clear q5
                try clear hx5
                try clear qi5
                try clear c6
                try clear c6b0
                try clear c6b1
                try clear p6
                try clear c7
                try clear c7b0
                try clear c7b1
                try clear c8
                try clear c8b0
                try clear c8b1
                try clear c9
                try clear c9b0
                try clear c9b1
                try clear c12
                try clear c12b0
                try clear c12b1
                try clear c13
                try clear c13b0
                try clear c15
                try clear c16
                try clear c18
                try clear c18b0
                try clear c18b1
                try clear c19
                try clear c19b0
                try clear c19b1
                try clear hx53002_0
                try clear hx53003_0
                try clear hx53004_0
                try clear hx53005_0
                try clear hx53006_0
                try clear p2
                try clear p3
                try clear p5
                try clear p53002
                try clear p53003
                try clear p53004
                try clear p53005
                try clear p53006
                try clear p6
                try clear q5
                try clear q53002
                try clear q53003
                try clear q53004
                try clear q53005
                try clear q53006
                obtain ⟨x71_3, rfl, HA, HK3, HO_4, HO_69, HB⟩ := hrel
                cases gk with
                | zero => exact absurd HA.out (by simp [journal_Scan.l1])
                | succ k3 =>
                  have H := HA.out
                  clear HA
                  simp only [journal_Scan.l1] at H
                  replace H : (if x71_3 < (t53009.length : Int) then (if 0 ≤ x71_3 then (if x71_3 < (t53009.length : Int) then (if 0 ≤ (wrap64 ((ji17) + x71_3)) then (if (wrap64 ((ji17) + x71_3)) < ((l0.drop (x5_1 : Int).toNat).length : Int) then (if (rd (l0.drop (x5_1 : Int).toNat) (wrap64 ((ji17) + x71_3))) = (rd t53009 x71_3) then (journal_Scan.l1 k3 l0 x4_1 x5_1 (l0.drop (x5_1 : Int).toNat) (Go.bits .or .i64 (wrap64 ((wrap64 (rd (l0.drop (x5_1 : Int).toNat) 0)) * 256)) (wrap64 (rd (l0.drop (x5_1 : Int).toNat) 1))) (wrap64 (rd (l0.drop (x5_1 : Int).toNat) 4)) t53009 (t53009.length : Int) (wrap64 (x71_3 + 1))) else (some (x4_1, x5_1))) else (none)) else (none)) else (none)) else (none)) else ((some (([] : List Int) : List Int)).bind fun y53014 => (if 5 ≤ (ji17) then (if (ji17) ≤ ((l0.drop (x5_1 : Int).toNat).length : Int) then (if y53014.length + (((l0.drop (x5_1 : Int).toNat).take ((ji17) : Int).toNat).drop 5).length < 140737488355328 then (if x4_1.length < 4398046511104 then (journal_Scan.l0 k3 l0 (x4_1 ++ [(⟨(wrap64 (rd (l0.drop (x5_1 : Int).toNat) 4)), (y53014 ++ (((l0.drop (x5_1 : Int).toNat).take ((ji17) : Int).toNat).drop 5))⟩ : S57)]) (wrap64 (x5_1 + (wrap64 ((ji17) + 4))))) else (none)) else (none)) else (none)) else (none)))) = some (r1, r2) := by first | (rw [hji17] at H; exact H) | (simp only [hji17] at H ⊢; exact H)
                  by_cases c24 : x71_3 < (t53009.length : Int)
                  · rw [if_pos c24] at H
                    have c24b0 : decide (x71_3 < (t53009.length : Int)) = true := decide_eq_true c24
                    clear c24
                    replace H := if_some H; obtain ⟨c25, H⟩ := H
                    have c25b0 : decide (0 ≤ x71_3) = true := decide_eq_true c25
                    clear c25
                    replace H := if_some H; obtain ⟨c26, H⟩ := H
                    have c26b0 : decide (x71_3 < (t53009.length : Int)) = true := decide_eq_true c26
                    clear c26
                    obtain ⟨ji27, hji27⟩ : ∃ j_ : Int, (wrap64 ((ji17) + x71_3)) = j_ := ⟨_, rfl⟩
                    replace H : (if 0 ≤ (ji27) then (if (ji27) < ((l0.drop (x5_1 : Int).toNat).length : Int) then (if (rd (l0.drop (x5_1 : Int).toNat) (ji27)) = (rd t53009 x71_3) then (journal_Scan.l1 k3 l0 x4_1 x5_1 (l0.drop (x5_1 : Int).toNat) (Go.bits .or .i64 (wrap64 ((wrap64 (rd (l0.drop (x5_1 : Int).toNat) 0)) * 256)) (wrap64 (rd (l0.drop (x5_1 : Int).toNat) 1))) (wrap64 (rd (l0.drop (x5_1 : Int).toNat) 4)) t53009 (t53009.length : Int) (wrap64 (x71_3 + 1))) else (some (x4_1, x5_1))) else (none)) else (none)) = some (r1, r2) := by first | (rw [hji27] at H; exact H) | (simp only [hji27] at H ⊢; exact H)
                    have hji27w : (IntKind.i64.wrap ((ji17) + x71_3)) = ji27 := (i64_w _).trans hji27
                    replace H := if_some H; obtain ⟨c28, H⟩ := H
                    have c28b0 : decide (0 ≤ (ji27)) = true := decide_eq_true c28
                    clear c28
                    replace H := if_some H; obtain ⟨c29, H⟩ := H
                    have c29b0 : decide ((ji27) < ((l0.drop (x5_1 : Int).toNat).length : Int)) = true := decide_eq_true c29
                    clear c29
                    by_cases c30 : (rd (l0.drop (x5_1 : Int).toNat) (ji27)) = (rd t53009 x71_3)
                    · rw [if_pos c30] at H
                      have c30b0 : ((rd (l0.drop (x5_1 : Int).toNat) (ji27)) == (rd t53009 x71_3)) = true := beq_iff_eq.mpr c30
                      have c30b1 : ((rd (l0.drop (x5_1 : Int).toNat) (ji27)) != (rd t53009 x71_3)) = false := bne_eq_false_iff_eq.mpr c30
                      clear c30
                      have H' := Aside0.mk H
                      clear H
                      have p53012 : 0 ≤ (x71_3 : Int) := of_decide_eq_true (by first | (with_reducible assumption) | assumption)
                      have q53012 : x71_3 < (t53009.length : Int) := of_decide_eq_true (by first | (with_reducible assumption) | assumption)
                      obtain ⟨ad53012, e53012, hx53012_0⟩ := Kd.at_int (Kd.R_reads' HO_69.out).2.2 x71_3 p53012 q53012
                      cases e53012
                      replace p53012 := eq_true p53012
                      replace q53012 := eq_true q53012
                      have p53013 : 0 ≤ ((ji27) : Int) := of_decide_eq_true (by first | (with_reducible assumption) | assumption)
                      have q53013 : (ji27) < ((l0.drop (x5_1 : Int).toNat).length : Int) := of_decide_eq_true (by first | (with_reducible assumption) | assumption)
                      obtain ⟨ad53013, e53013, hx53013_0⟩ := Kd.at_int HR53001.out (ji27) p53013 q53013
                      obtain rfl : ad53002 = ad53013 := (by injection e53013)
                      replace hx53013_0 := (HB.out.cell (World.block_lt_of_cell? w _ hx53013_0)).trans hx53013_0
                      (try (have qv53013 := eq_true q53013; simp only [List.length_drop] at qv53013))
                      (try (have qw53013 := qi53013; simp only [List.length_drop] at qw53013))
                      replace p53013 := eq_true p53013
                      replace q53013 := eq_true q53013
                      go_wp2
                      repeat (go_quiet (fail); try go_wp2)
                      go_roundg k3
                      case measure => have := HK1.out; have := HJ9.out; have := HK3.out; omega
                      case rel => exact ⟨(wrap64 (x71_3 + 1)), (by first | rfl | (simp; done) | (simp [*]; done)), H', ⟨by have := HK1.out; have := HJ9.out; have := HK3.out; omega⟩, ⟨Kd.S_ext HO_4.out⟩, ⟨Kd.R_ext HO_69.out⟩, ⟨below_ext HB.out⟩⟩
                    · rw [if_neg c30] at H
                      have c30b0 : ((rd (l0.drop (x5_1 : Int).toNat) (ji27)) == (rd t53009 x71_3)) = false := beq_eq_false_iff_ne.mpr c30
                      have c30b1 : ((rd (l0.drop (x5_1 : Int).toNat) (ji27)) != (rd t53009 x71_3)) = true := bne_iff_ne.mpr c30
                      simp only [Option.some.injEq, Prod.mk.injEq] at H
                      obtain ⟨rfl, rfl⟩ := H
                      have p53012 : 0 ≤ (x71_3 : Int) := of_decide_eq_true (by first | (with_reducible assumption) | assumption)
                      have q53012 : x71_3 < (t53009.length : Int) := of_decide_eq_true (by first | (with_reducible assumption) | assumption)
                      obtain ⟨ad53012, e53012, hx53012_0⟩ := Kd.at_int (Kd.R_reads' HO_69.out).2.2 x71_3 p53012 q53012
                      cases e53012
                      replace p53012 := eq_true p53012
                      replace q53012 := eq_true q53012
                      have p53013 : 0 ≤ ((ji27) : Int) := of_decide_eq_true (by first | (with_reducible assumption) | assumption)
                      have q53013 : (ji27) < ((l0.drop (x5_1 : Int).toNat).length : Int) := of_decide_eq_true (by first | (with_reducible assumption) | assumption)
                      obtain ⟨ad53013, e53013, hx53013_0⟩ := Kd.at_int HR53001.out (ji27) p53013 q53013
                      obtain rfl : ad53002 = ad53013 := (by injection e53013)
                      replace hx53013_0 := (HB.out.cell (World.block_lt_of_cell? w _ hx53013_0)).trans hx53013_0
                      (try (have qv53013 := eq_true q53013; simp only [List.length_drop] at qv53013))
                      (try (have qw53013 := qi53013; simp only [List.length_drop] at qw53013))
                      replace p53013 := eq_true p53013
                      replace q53013 := eq_true q53013
                      go_wp2
                      repeat (go_quiet (fail); try go_wp2)
                      (try rw [Exit.noGoto_ret])
                      go_ret2
                      exact ⟨_, by first | rfl | (simp [errW_none, errW_some] <;> rfl) | (simp only [← hji17, ← hji27]; first | rfl | (simp [errW_none, errW_some] <;> rfl)) | (simp [*, errW_none, errW_some] <;> rfl), Kd.S_ext (Kd.S_mono HO_4.out (fun _ hk => trivial)), below_ext HB.out⟩
                  · rw [if_neg c24] at H
                    have c24b0 : decide (x71_3 < (t53009.length : Int)) = false := decide_eq_false c24
                    clear c24
                    obtain ⟨y53014, hy53014⟩ : ∃ y_ : List Int, y_ = (([] : List Int)) := ⟨_, rfl⟩
                    replace H : (if 5 ≤ (ji17) then (if (ji17) ≤ ((l0.drop (x5_1 : Int).toNat).length : Int) then (if y53014.length + (((l0.drop (x5_1 : Int).toNat).take ((ji17) : Int).toNat).drop 5).length < 140737488355328 then (if x4_1.length < 4398046511104 then (journal_Scan.l0 k3 l0 (x4_1 ++ [(⟨(wrap64 (rd (l0.drop (x5_1 : Int).toNat) 4)), (y53014 ++ (((l0.drop (x5_1 : Int).toNat).take ((ji17) : Int).toNat).drop 5))⟩ : S57)]) (wrap64 (x5_1 + (wrap64 ((ji17) + 4))))) else (none)) else (none)) else (none)) else (none)) = some (r1, r2) := by first | (rw [hy53014]; with_reducible exact H) | (have H2_ := (Option.bind_some _ _).symm.trans H; rw [hy53014]; with_reducible exact H2_) | (have H2_ := (Option.bind_some _ _).symm.trans H; with_reducible exact H2_) | with_reducible exact H | (rw [hy53014]; exact H) | exact H
                    have Ny53014 := Aside0.mk hy53014
                    clear hy53014
                    replace H := if_some H; obtain ⟨c31, H⟩ := H
                    have c31b0 := eq_true c31
                    have c31b1 : decide (5 ≤ (ji17)) = true := decide_eq_true c31
                    clear c31
                    replace H := if_some H; obtain ⟨c32, H⟩ := H
                    have c32b0 := eq_true c32
                    have c32b1 : decide ((ji17) ≤ ((l0.drop (x5_1 : Int).toNat).length : Int)) = true := decide_eq_true c32
                    clear c32
                    replace H := if_some H; obtain ⟨c33, H⟩ := H
                    have LMc33 := Aside0.mk c33
                    clear c33
                    obtain ⟨y53018, hy53018⟩ : ∃ y_ : List Int, y_ = (y53014 ++ (((l0.drop (x5_1 : Int).toNat).take ((ji17) : Int).toNat).drop 5)) := ⟨_, rfl⟩
                    replace H : (if x4_1.length < 4398046511104 then (journal_Scan.l0 k3 l0 (x4_1 ++ [(⟨(wrap64 (rd (l0.drop (x5_1 : Int).toNat) 4)), y53018⟩ : S57)]) (wrap64 (x5_1 + (wrap64 ((ji17) + 4))))) else (none)) = some (r1, r2) := by first | (rw [hy53018]; with_reducible exact H) | (have H2_ := (Option.bind_some _ _).symm.trans H; rw [hy53018]; with_reducible exact H2_) | (have H2_ := (Option.bind_some _ _).symm.trans H; with_reducible exact H2_) | with_reducible exact H | (rw [hy53018]; exact H) | exact H
                    have Ny53018 := Aside0.mk hy53018
                    clear hy53018
                    replace H := if_some H; obtain ⟨c34, H⟩ := H
                    have LMc34 := Aside0.mk c34
                    clear c34
                    obtain ⟨y53021, hy53021⟩ : ∃ y_ : List (S57), y_ = (x4_1 ++ [(⟨(wrap64 (rd (l0.drop (x5_1 : Int).toNat) 4)), y53018⟩ : S57)]) := ⟨_, rfl⟩
                    replace H : (journal_Scan.l0 k3 l0 y53021 (wrap64 (x5_1 + (wrap64 ((ji17) + 4))))) = some (r1, r2) := by first | (rw [hy53021]; with_reducible exact H) | (have H2_ := (Option.bind_some _ _).symm.trans H; rw [hy53021]; with_reducible exact H2_) | (have H2_ := (Option.bind_some _ _).symm.trans H; with_reducible exact H2_) | with_reducible exact H | (rw [hy53021]; exact H) | exact H
                    have Ny53021 := Aside0.mk hy53021
                    clear hy53021
                    have H' := Aside0.mk H
                    clear H
                    go_wp2_with (first | ((with_reducible refine gate_dst (N := 88) rfl ?_); (try (refine gate_guard (by rfl) ?_; dsimp only)); refine Kd.R_lit (Kd.int .u8) _ 5 ?hg (N := 88) ?hd (xs := ([] : List Int)) (inner := []) (ok := fun _ => True) (okp := fun _ => True) ?hr ?hp (fun _ hk => hk) trivial (Below.refl _ _) (Nat.le_refl _) (by simp) ?_; (case hd => rfl); (case hg => rfl); (case hr => first | (go_simp; done) | (go_simp; rfl)); (case hp => exact (Reps.none _ _)); intro v53015 w35 ho36 hb hg_ hnew_; clear hg_ hnew_; (first | rw [← Ny53014.out] at ho36 | (simp only [Int.reduceToNat] at ho36; rw [← Ny53014.out] at ho36)); have n2_ := Aside0.mk (Kd.R_lower (Kd.R_new' ho36 (Kd.R_lt (Kd.R_ext HO_69.out))) (below_size (below_ext HB.out))); have HO53016 := n2_; replace HO_4 := apS HO_4 hb (Kd.R_base ho36); replace HO_69 := apR HO_69 hb (Kd.R_base ho36); replace HB := mvH HB hb; clear n2_; clear hb ho36; obtain ⟨i037, hi037, _, hsz37, _⟩ := info_parts info5; obtain ⟨A37, hcut37, hA37, hC37⟩ := print_mid_of (P := Try.prog) (Value.int .u8) 0 22 5 .i64 .i64 Try.underlying22 hi037 hsz37 (some ad53002) (c0 - x5_1.toNat) (l0.drop (x5_1 : Int).toNat) 5 (ji17) (by omega) (by first | omega | exact of_decide_eq_true (by first | (with_reducible assumption) | assumption)) (of_decide_eq_true (by first | (with_reducible assumption) | assumption)) HC53001.out; have HR53017 := Aside0.mk (Kd.C_of_reads (h1 := fun _ => rfl) (hA37 _ (Kd.reads_of_C HR53001.out))); have HC53017 := Aside0.mk hC37; clear hA37 hC37 hi037 hsz37; (try (have hcuu37 := hcut37; rw [← drop_len l0 x5_1] at hcuu37))) | ((with_reducible refine gate_builtin (b := .append) (xs := #[.tmp 88, .tmp 92]) rfl ?_); (try (refine gate_guard (by rfl) ?_; dsimp only)); at_builtin; refine Kd.R_append_rows (Kd.int .u8) (w0 := w) w.heap.size rfl (.tmp 88) (.tmp 92) 22 5 (.int .u8 0) 1 rfl Try.underlying22 info5 rfl (by decide) (by omega) v53015 y53014 (((l0.drop (x5_1 : Int).toNat).take ((ji17) : Int).toNat).drop 5) _ _ _ (fun k_ => some k_ ≠ (.slice Ao23 t53009.length co23 : Value).ownBlock) (fun _ => False) rfl rfl ?aO ?aR (fun _ _ h => h) (fun _ h => h.elim) ?aF ?aB ?aS ?aL ?_; (case aR => first | (refine rrow_len (show (((l0.drop (x5_1 : Int).toNat).take ((ji17) : Int).toNat).drop 5).length = ((ji17).toNat - 5) from (by rw [List.length_drop, List.length_take]; have h_ : ((ji17) : Int) ≤ ((l0.drop (x5_1 : Int).toNat).length : Int) := of_decide_eq_true (by first | (with_reducible assumption) | assumption); omega)) ?_; repeat (first | exact (Kd.C_below HR53017.out HB.out) | (with_reducible refine Kd.C_alloc ?_ _) | (with_reducible refine Kd.C_drewN ?_ _) | (with_reducible refine Kd.C_drew ?_))) | (refine rrow_len (m := (((l0.drop (x5_1 : Int).toNat).take ((ji17) : Int).toNat).drop 5).length) (by simp only [List.length_drop, List.length_take]) ?_; repeat (first | exact (Kd.C_below HR53017.out HB.out) | (with_reducible refine Kd.C_alloc ?_ _) | (with_reducible refine Kd.C_drewN ?_ _) | (with_reducible refine Kd.C_drew ?_))) | (repeat (first | exact (Kd.C_below HR53017.out HB.out) | (with_reducible refine Kd.C_alloc ?_ _) | (with_reducible refine Kd.C_drewN ?_ _) | (with_reducible refine Kd.C_drew ?_)))); (case aB => exact (below_ext HB.out)); (case aF => exact (fun k_ hk => Kd.fresh' (Kd.R_lt (Kd.R_ext HO_69.out)) k_ hk)); (case aO => exact (Kd.R_ext (Kd.R_mono HO53016.out (fun _ hk => hk.2)))); (case aS => exact (below_size (below_ext HB.out))); (case aL => first | (have := LMc33.out; simp only [List.length_drop, List.length_take] at this ⊢; omega) | (have := LMc33.out; have hlx_ := (show (((l0.drop (x5_1 : Int).toNat).take ((ji17) : Int).toNat).drop 5).length = ((ji17).toNat - 5) from (by rw [List.length_drop, List.length_take]; have h_ : ((ji17) : Int) ≤ ((l0.drop (x5_1 : Int).toNat).length : Int) := of_decide_eq_true (by first | (with_reducible assumption) | assumption); omega)); omega)); intro v53019 w38 ho hb hg hat; rw [← Ny53018.out] at ho; have n0_ := Aside0.mk (Kd.S_after (ok := (fun k_ => some k_ ≠ (.slice Ao23 t53009.length co23 : Value).ownBlock)) (Kd.S_ext HO_4.out) hg hat); have n1_ := Aside0.mk (Kd.R_after (ok := (fun _ => True)) (Kd.R_ext HO_69.out) hg hat); have n2_ := Aside0.mk (hb); have n3_ := Aside0.mk (ho); clear HO_4; clear HO_69; clear HB; clear HO53016; have HO_4 := n0_; have HO_69 := n1_; have HB := n2_; have HO53020 := n3_; clear n0_ n1_ n2_ n3_; clear ho hb hg hat; obtain ⟨Ao39, co39, eo39⟩ := Kd.R_slice HO53020.out; subst eo39) | ((with_reducible refine gate_builtin (b := .append) (xs := #[.tmp 86, .tmp 95]) rfl ?_); (try (refine gate_guard (by rfl) ?_; dsimp only)); at_builtin; refine Kd.S_append k57 (w0 := w) w.heap.size rfl (.tmp 86) (.tmp 95) 60 57 (.agg #[(.int .i64 0), (.slice none 0 0)]) 32 rfl Try.underlying60 info57 rfl (by decide) (by omega) u4 x4_1 (⟨(wrap64 (rd (l0.drop (x5_1 : Int).toNat) 4)), y53018⟩ : S57) [.int .i64 (wrap64 (rd (l0.drop (x5_1 : Int).toNat) 4)), .slice Ao39 y53018.length co39] (fun k_ => some k_ ≠ (.slice Ao23 t53009.length co23 : Value).ownBlock) (fun k_ => some k_ = (.slice Ao39 y53018.length co39 : Value).ownBlock) rfl rfl ?aP (fun k_ hk_ => ((Kd.R_mono (ok' := fun k_ => ((fun k_ => some k_ ≠ (.slice Ao23 t53009.length co23 : Value).ownBlock)) k_ ∧ some k_ ≠ (u4 : Value).ownBlock) (Kd.R_apart' (HO53020.out) (Kd.S_typed HO_4.out) (by decide)) (fun k_ hk => ⟨hk.1, hk.2⟩))).1 k_ hk_.symm) ?aF ?aO ?aB ?aS ?aL ?_; (case aP => exact k57_mkM _ _ _ (⟨(wrap64 (rd (l0.drop (x5_1 : Int).toNat) 4)), y53018⟩ : S57) (Kd.R_mono (Kd.R_tight rfl (Kd.R_mono (ok' := fun k_ => ((fun k_ => some k_ ≠ (.slice Ao23 t53009.length co23 : Value).ownBlock)) k_ ∧ some k_ ≠ (u4 : Value).ownBlock) (Kd.R_apart' (HO53020.out) (Kd.S_typed HO_4.out) (by decide)) (fun k_ hk => ⟨hk.1, hk.2⟩))) (fun _ h_ => h_))); (case aB => exact (below_ext HB.out)); (case aF => exact (fun k_ hk => Kd.fresh' (Kd.R_lt (Kd.R_ext HO_69.out)) k_ hk)); (case aO => exact (Kd.S_ext (Kd.S_mono HO_4.out (fun k_ hk => ⟨hk.1, fun e_ => hk.2 e_⟩)))); (case aS => exact (below_size (below_ext HB.out))); (case aL => have := LMc34.out; omega); intro v53022 w40 ho hb hg hat; rw [← Ny53021.out] at ho; have n0_ := Aside0.mk (Kd.R_over' (Kd.R_ext HO_69.out) (Kd.S_typed (Kd.S_ext HO_4.out)) (by decide) hg); have n1_ := Aside0.mk (hb); have n2_ := Aside0.mk (ho); clear HO_69; clear HB; clear HO_4; clear HO53020; have HO_69 := n0_; have HB := n1_; have HO53023 := n2_; clear n0_ n1_ n2_; clear ho hb hg hat))
                    repeat (go_quiet (first | ((with_reducible refine gate_dst (N := 88) rfl ?_); (try (refine gate_guard (by rfl) ?_; dsimp only)); refine Kd.R_lit (Kd.int .u8) _ 5 ?hg (N := 88) ?hd (xs := ([] : List Int)) (inner := []) (ok := fun _ => True) (okp := fun _ => True) ?hr ?hp (fun _ hk => hk) trivial (Below.refl _ _) (Nat.le_refl _) (by simp) ?_; (case hd => rfl); (case hg => rfl); (case hr => first | (go_simp; done) | (go_simp; rfl)); (case hp => exact (Reps.none _ _)); intro v53015 w35 ho36 hb hg_ hnew_; clear hg_ hnew_; (first | rw [← Ny53014.out] at ho36 | (simp only [Int.reduceToNat] at ho36; rw [← Ny53014.out] at ho36)); have n2_ := Aside0.mk (Kd.R_lower (Kd.R_new' ho36 (Kd.R_lt (Kd.R_ext HO_69.out))) (below_size (below_ext HB.out))); have HO53016 := n2_; replace HO_4 := apS HO_4 hb (Kd.R_base ho36); replace HO_69 := apR HO_69 hb (Kd.R_base ho36); replace HB := mvH HB hb; clear n2_; clear hb ho36; obtain ⟨i037, hi037, _, hsz37, _⟩ := info_parts info5; obtain ⟨A37, hcut37, hA37, hC37⟩ := print_mid_of (P := Try.prog) (Value.int .u8) 0 22 5 .i64 .i64 Try.underlying22 hi037 hsz37 (some ad53002) (c0 - x5_1.toNat) (l0.drop (x5_1 : Int).toNat) 5 (ji17) (by omega) (by first | omega | exact of_decide_eq_true (by first | (with_reducible assumption) | assumption)) (of_decide_eq_true (by first | (with_reducible assumption) | assumption)) HC53001.out; have HR53017 := Aside0.mk (Kd.C_of_reads (h1 := fun _ => rfl) (hA37 _ (Kd.reads_of_C HR53001.out))); have HC53017 := Aside0.mk hC37; clear hA37 hC37 hi037 hsz37; (try (have hcuu37 := hcut37; rw [← drop_len l0 x5_1] at hcuu37))) | ((with_reducible refine gate_builtin (b := .append) (xs := #[.tmp 88, .tmp 92]) rfl ?_); (try (refine gate_guard (by rfl) ?_; dsimp only)); at_builtin; refine Kd.R_append_rows (Kd.int .u8) (w0 := w) w.heap.size rfl (.tmp 88) (.tmp 92) 22 5 (.int .u8 0) 1 rfl Try.underlying22 info5 rfl (by decide) (by omega) v53015 y53014 (((l0.drop (x5_1 : Int).toNat).take ((ji17) : Int).toNat).drop 5) _ _ _ (fun k_ => some k_ ≠ (.slice Ao23 t53009.length co23 : Value).ownBlock) (fun _ => False) rfl rfl ?aO ?aR (fun _ _ h => h) (fun _ h => h.elim) ?aF ?aB ?aS ?aL ?_; (case aR => first | (refine rrow_len (show (((l0.drop (x5_1 : Int).toNat).take ((ji17) : Int).toNat).drop 5).length = ((ji17).toNat - 5) from (by rw [List.length_drop, List.length_take]; have h_ : ((ji17) : Int) ≤ ((l0.drop (x5_1 : Int).toNat).length : Int) := of_decide_eq_true (by first | (with_reducible assumption) | assumption); omega)) ?_; repeat (first | exact (Kd.C_below HR53017.out HB.out) | (with_reducible refine Kd.C_alloc ?_ _) | (with_reducible refine Kd.C_drewN ?_ _) | (with_reducible refine Kd.C_drew ?_))) | (refine rrow_len (m := (((l0.drop (x5_1 : Int).toNat).take ((ji17) : Int).toNat).drop 5).length) (by simp only [List.length_drop, List.length_take]) ?_; repeat (first | exact (Kd.C_below HR53017.out HB.out) | (with_reducible refine Kd.C_alloc ?_ _) | (with_reducible refine Kd.C_drewN ?_ _) | (with_reducible refine Kd.C_drew ?_))) | (repeat (first | exact (Kd.C_below HR53017.out HB.out) | (with_reducible refine Kd.C_alloc ?_ _) | (with_reducible refine Kd.C_drewN ?_ _) | (with_reducible refine Kd.C_drew ?_)))); (case aB => exact (below_ext HB.out)); (case aF => exact (fun k_ hk => Kd.fresh' (Kd.R_lt (Kd.R_ext HO_69.out)) k_ hk)); (case aO => exact (Kd.R_ext (Kd.R_mono HO53016.out (fun _ hk => hk.2)))); (case aS => exact (below_size (below_ext HB.out))); (case aL => first | (have := LMc33.out; simp only [List.length_drop, List.length_take] at this ⊢; omega) | (have := LMc33.out; have hlx_ := (show (((l0.drop (x5_1 : Int).toNat).take ((ji17) : Int).toNat).drop 5).length = ((ji17).toNat - 5) from (by rw [List.length_drop, List.length_take]; have h_ : ((ji17) : Int) ≤ ((l0.drop (x5_1 : Int).toNat).length : Int) := of_decide_eq_true (by first | (with_reducible assumption) | assumption); omega)); omega)); intro v53019 w38 ho hb hg hat; rw [← Ny53018.out] at ho; have n0_ := Aside0.mk (Kd.S_after (ok := (fun k_ => some k_ ≠ (.slice Ao23 t53009.length co23 : Value).ownBlock)) (Kd.S_ext HO_4.out) hg hat); have n1_ := Aside0.mk (Kd.R_after (ok := (fun _ => True)) (Kd.R_ext HO_69.out) hg hat); have n2_ := Aside0.mk (hb); have n3_ := Aside0.mk (ho); clear HO_4; clear HO_69; clear HB; clear HO53016; have HO_4 := n0_; have HO_69 := n1_; have HB := n2_; have HO53020 := n3_; clear n0_ n1_ n2_ n3_; clear ho hb hg hat; obtain ⟨Ao39, co39, eo39⟩ := Kd.R_slice HO53020.out; subst eo39) | ((with_reducible refine gate_builtin (b := .append) (xs := #[.tmp 86, .tmp 95]) rfl ?_); (try (refine gate_guard (by rfl) ?_; dsimp only)); at_builtin; refine Kd.S_append k57 (w0 := w) w.heap.size rfl (.tmp 86) (.tmp 95) 60 57 (.agg #[(.int .i64 0), (.slice none 0 0)]) 32 rfl Try.underlying60 info57 rfl (by decide) (by omega) u4 x4_1 (⟨(wrap64 (rd (l0.drop (x5_1 : Int).toNat) 4)), y53018⟩ : S57) [.int .i64 (wrap64 (rd (l0.drop (x5_1 : Int).toNat) 4)), .slice Ao39 y53018.length co39] (fun k_ => some k_ ≠ (.slice Ao23 t53009.length co23 : Value).ownBlock) (fun k_ => some k_ = (.slice Ao39 y53018.length co39 : Value).ownBlock) rfl rfl ?aP (fun k_ hk_ => ((Kd.R_mono (ok' := fun k_ => ((fun k_ => some k_ ≠ (.slice Ao23 t53009.length co23 : Value).ownBlock)) k_ ∧ some k_ ≠ (u4 : Value).ownBlock) (Kd.R_apart' (HO53020.out) (Kd.S_typed HO_4.out) (by decide)) (fun k_ hk => ⟨hk.1, hk.2⟩))).1 k_ hk_.symm) ?aF ?aO ?aB ?aS ?aL ?_; (case aP => exact k57_mkM _ _ _ (⟨(wrap64 (rd (l0.drop (x5_1 : Int).toNat) 4)), y53018⟩ : S57) (Kd.R_mono (Kd.R_tight rfl (Kd.R_mono (ok' := fun k_ => ((fun k_ => some k_ ≠ (.slice Ao23 t53009.length co23 : Value).ownBlock)) k_ ∧ some k_ ≠ (u4 : Value).ownBlock) (Kd.R_apart' (HO53020.out) (Kd.S_typed HO_4.out) (by decide)) (fun k_ hk => ⟨hk.1, hk.2⟩))) (fun _ h_ => h_))); (case aB => exact (below_ext HB.out)); (case aF => exact (fun k_ hk => Kd.fresh' (Kd.R_lt (Kd.R_ext HO_69.out)) k_ hk)); (case aO => exact (Kd.S_ext (Kd.S_mono HO_4.out (fun k_ hk => ⟨hk.1, fun e_ => hk.2 e_⟩)))); (case aS => exact (below_size (below_ext HB.out))); (case aL => have := LMc34.out; omega); intro v53022 w40 ho hb hg hat; rw [← Ny53021.out] at ho; have n0_ := Aside0.mk (Kd.R_over' (Kd.R_ext HO_69.out) (Kd.S_typed (Kd.S_ext HO_4.out)) (by decide) hg); have n1_ := Aside0.mk (hb); have n2_ := Aside0.mk (ho); clear HO_69; clear HB; clear HO_4; clear HO53020; have HO_69 := n0_; have HB := n1_; have HO53023 := n2_; clear n0_ n1_ n2_; clear ho hb hg hat)); try go_wp2_with (first | ((with_reducible refine gate_dst (N := 88) rfl ?_); (try (refine gate_guard (by rfl) ?_; dsimp only)); refine Kd.R_lit (Kd.int .u8) _ 5 ?hg (N := 88) ?hd (xs := ([] : List Int)) (inner := []) (ok := fun _ => True) (okp := fun _ => True) ?hr ?hp (fun _ hk => hk) trivial (Below.refl _ _) (Nat.le_refl _) (by simp) ?_; (case hd => rfl); (case hg => rfl); (case hr => first | (go_simp; done) | (go_simp; rfl)); (case hp => exact (Reps.none _ _)); intro v53015 w35 ho36 hb hg_ hnew_; clear hg_ hnew_; (first | rw [← Ny53014.out] at ho36 | (simp only [Int.reduceToNat] at ho36; rw [← Ny53014.out] at ho36)); have n2_ := Aside0.mk (Kd.R_lower (Kd.R_new' ho36 (Kd.R_lt (Kd.R_ext HO_69.out))) (below_size (below_ext HB.out))); have HO53016 := n2_; replace HO_4 := apS HO_4 hb (Kd.R_base ho36); replace HO_69 := apR HO_69 hb (Kd.R_base ho36); replace HB := mvH HB hb; clear n2_; clear hb ho36; obtain ⟨i037, hi037, _, hsz37, _⟩ := info_parts info5; obtain ⟨A37, hcut37, hA37, hC37⟩ := print_mid_of (P := Try.prog) (Value.int .u8) 0 22 5 .i64 .i64 Try.underlying22 hi037 hsz37 (some ad53002) (c0 - x5_1.toNat) (l0.drop (x5_1 : Int).toNat) 5 (ji17) (by omega) (by first | omega | exact of_decide_eq_true (by first | (with_reducible assumption) | assumption)) (of_decide_eq_true (by first | (with_reducible assumption) | assumption)) HC53001.out; have HR53017 := Aside0.mk (Kd.C_of_reads (h1 := fun _ => rfl) (hA37 _ (Kd.reads_of_C HR53001.out))); have HC53017 := Aside0.mk hC37; clear hA37 hC37 hi037 hsz37; (try (have hcuu37 := hcut37; rw [← drop_len l0 x5_1] at hcuu37))) | ((with_reducible refine gate_builtin (b := .append) (xs := #[.tmp 88, .tmp 92]) rfl ?_); (try (refine gate_guard (by rfl) ?_; dsimp only)); at_builtin; refine Kd.R_append_rows (Kd.int .u8) (w0 := w) w.heap.size rfl (.tmp 88) (.tmp 92) 22 5 (.int .u8 0) 1 rfl Try.underlying22 info5 rfl (by decide) (by omega) v53015 y53014 (((l0.drop (x5_1 : Int).toNat).take ((ji17) : Int).toNat).drop 5) _ _ _ (fun k_ => some k_ ≠ (.slice Ao23 t53009.length co23 : Value).ownBlock) (fun _ => False) rfl rfl ?aO ?aR (fun _ _ h => h) (fun _ h => h.elim) ?aF ?aB ?aS ?aL ?_; (case aR => first | (refine rrow_len (show (((l0.drop (x5_1 : Int).toNat).take ((ji17) : Int).toNat).drop 5).length = ((ji17).toNat - 5) from (by rw [List.length_drop, List.length_take]; have h_ : ((ji17) : Int) ≤ ((l0.drop (x5_1 : Int).toNat).length : Int) := of_decide_eq_true (by first | (with_reducible assumption) | assumption); omega)) ?_; repeat (first | exact (Kd.C_below HR53017.out HB.out) | (with_reducible refine Kd.C_alloc ?_ _) | (with_reducible refine Kd.C_drewN ?_ _) | (with_reducible refine Kd.C_drew ?_))) | (refine rrow_len (m := (((l0.drop (x5_1 : Int).toNat).take ((ji17) : Int).toNat).drop 5).length) (by simp only [List.length_drop, List.length_take]) ?_; repeat (first | exact (Kd.C_below HR53017.out HB.out) | (with_reducible refine Kd.C_alloc ?_ _) | (with_reducible refine Kd.C_drewN ?_ _) | (with_reducible refine Kd.C_drew ?_))) | (repeat (first | exact (Kd.C_below HR53017.out HB.out) | (with_reducible refine Kd.C_alloc ?_ _) | (with_reducible refine Kd.C_drewN ?_ _) | (with_reducible refine Kd.C_drew ?_)))); (case aB => exact (below_ext HB.out)); (case aF => exact (fun k_ hk => Kd.fresh' (Kd.R_lt (Kd.R_ext HO_69.out)) k_ hk)); (case aO => exact (Kd.R_ext (Kd.R_mono HO53016.out (fun _ hk => hk.2)))); (case aS => exact (below_size (below_ext HB.out))); (case aL => first | (have := LMc33.out; simp only [List.length_drop, List.length_take] at this ⊢; omega) | (have := LMc33.out; have hlx_ := (show (((l0.drop (x5_1 : Int).toNat).take ((ji17) : Int).toNat).drop 5).length = ((ji17).toNat - 5) from (by rw [List.length_drop, List.length_take]; have h_ : ((ji17) : Int) ≤ ((l0.drop (x5_1 : Int).toNat).length : Int) := of_decide_eq_true (by first | (with_reducible assumption) | assumption); omega)); omega)); intro v53019 w38 ho hb hg hat; rw [← Ny53018.out] at ho; have n0_ := Aside0.mk (Kd.S_after (ok := (fun k_ => some k_ ≠ (.slice Ao23 t53009.length co23 : Value).ownBlock)) (Kd.S_ext HO_4.out) hg hat); have n1_ := Aside0.mk (Kd.R_after (ok := (fun _ => True)) (Kd.R_ext HO_69.out) hg hat); have n2_ := Aside0.mk (hb); have n3_ := Aside0.mk (ho); clear HO_4; clear HO_69; clear HB; clear HO53016; have HO_4 := n0_; have HO_69 := n1_; have HB := n2_; have HO53020 := n3_; clear n0_ n1_ n2_ n3_; clear ho hb hg hat; obtain ⟨Ao39, co39, eo39⟩ := Kd.R_slice HO53020.out; subst eo39) | ((with_reducible refine gate_builtin (b := .append) (xs := #[.tmp 86, .tmp 95]) rfl ?_); (try (refine gate_guard (by rfl) ?_; dsimp only)); at_builtin; refine Kd.S_append k57 (w0 := w) w.heap.size rfl (.tmp 86) (.tmp 95) 60 57 (.agg #[(.int .i64 0), (.slice none 0 0)]) 32 rfl Try.underlying60 info57 rfl (by decide) (by omega) u4 x4_1 (⟨(wrap64 (rd (l0.drop (x5_1 : Int).toNat) 4)), y53018⟩ : S57) [.int .i64 (wrap64 (rd (l0.drop (x5_1 : Int).toNat) 4)), .slice Ao39 y53018.length co39] (fun k_ => some k_ ≠ (.slice Ao23 t53009.length co23 : Value).ownBlock) (fun k_ => some k_ = (.slice Ao39 y53018.length co39 : Value).ownBlock) rfl rfl ?aP (fun k_ hk_ => ((Kd.R_mono (ok' := fun k_ => ((fun k_ => some k_ ≠ (.slice Ao23 t53009.length co23 : Value).ownBlock)) k_ ∧ some k_ ≠ (u4 : Value).ownBlock) (Kd.R_apart' (HO53020.out) (Kd.S_typed HO_4.out) (by decide)) (fun k_ hk => ⟨hk.1, hk.2⟩))).1 k_ hk_.symm) ?aF ?aO ?aB ?aS ?aL ?_; (case aP => exact k57_mkM _ _ _ (⟨(wrap64 (rd (l0.drop (x5_1 : Int).toNat) 4)), y53018⟩ : S57) (Kd.R_mono (Kd.R_tight rfl (Kd.R_mono (ok' := fun k_ => ((fun k_ => some k_ ≠ (.slice Ao23 t53009.length co23 : Value).ownBlock)) k_ ∧ some k_ ≠ (u4 : Value).ownBlock) (Kd.R_apart' (HO53020.out) (Kd.S_typed HO_4.out) (by decide)) (fun k_ hk => ⟨hk.1, hk.2⟩))) (fun _ h_ => h_))); (case aB => exact (below_ext HB.out)); (case aF => exact (fun k_ hk => Kd.fresh' (Kd.R_lt (Kd.R_ext HO_69.out)) k_ hk)); (case aO => exact (Kd.S_ext (Kd.S_mono HO_4.out (fun k_ hk => ⟨hk.1, fun e_ => hk.2 e_⟩)))); (case aS => exact (below_size (below_ext HB.out))); (case aL => have := LMc34.out; omega); intro v53022 w40 ho hb hg hat; rw [← Ny53021.out] at ho; have n0_ := Aside0.mk (Kd.R_over' (Kd.R_ext HO_69.out) (Kd.S_typed (Kd.S_ext HO_4.out)) (by decide) hg); have n1_ := Aside0.mk (hb); have n2_ := Aside0.mk (ho); clear HO_69; clear HB; clear HO_4; clear HO53020; have HO_69 := n0_; have HB := n1_; have HO53023 := n2_; clear n0_ n1_ n2_; clear ho hb hg hat)))
                    go_roundg k3
                    case measure => have := HK1.out; have := HJ9.out; have := HK3.out; omega
                    case rel => exact ⟨(y53021), (wrap64 (x5_1 + (wrap64 ((ji17) + 4)))), (by first | rfl | (simp; done) | (simp only [← hji17] <;> (first | rfl | simp)) | (simp [*]; done)), H', ⟨by have := HK1.out; have := HJ9.out; have := HK3.out; omega⟩, ⟨Kd.S_ext (Kd.S_mono HO53023.out (fun _ hk => trivial))⟩, ⟨below_ext HB.out⟩⟩
      · rw [if_neg c2] at H
        have c2b0 : decide (9 ≤ (wrap64 ((l0.length : Int) - x5_1))) = false := decide_eq_false c2
        clear c2
        simp only [Option.some.injEq, Prod.mk.injEq] at H
        obtain ⟨rfl, rfl⟩ := H
        go_wp2
        repeat (go_quiet (fail); try go_wp2)
        (try rw [Exit.noGoto_ret])
        go_ret2
        exact ⟨_, by first | rfl | (simp [errW_none, errW_some] <;> rfl) | (simp [*, errW_none, errW_some] <;> rfl), Kd.S_ext HO_4.out, below_ext HB.out⟩

end Go.Proofs.Ytfljnggpnndmkaa.Z
