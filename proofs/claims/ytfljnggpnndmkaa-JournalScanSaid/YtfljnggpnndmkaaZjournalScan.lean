/- Written by a program of this session: each Go function as a plain Lean function, and that the machine's call does what it says. Conditions: none but those each theorem states. -/
import Derived.Test.YtfljnggpnndmkaaZ0
import Derived.Test.YtfljnggpnndmkaaZjournalknown
import Derived.Test.YtfljnggpnndmkaaZjournalsum
namespace Go.Proofs.Ytfljnggpnndmkaa.Z
open Go.RowKit Go.Proofs.YtfljnggpnndmkaaW.PrintWords Go.Proofs.YtfljnggpnndmkaaW.PrintLast Go.Proofs.YtfljnggpnndmkaaW.PrintMore
attribute [local go_sem] max2_int min2_int max_two min_two max_three min_three max_four min_four   -- for this text's walks alone
set_option linter.unusedVariables false
set_option linter.unusedSimpArgs false

/-! ### journal_Scan: function 53 -/
mutual
def journal_Scan.l0 : Nat → List Int → List (S57) → Int → Option ((List (S57)) × Int)
  | 0, _, _, _ => none
  | k + 1, x0, x4, x5 => if (wrap64 ((x0.length : Int) - x5)) ≥ 9 then (if 0 ≤ x5 then (if x5 ≤ (x0.length : Int) then (if 0 < ((x0.drop (x5 : Int).toNat).length : Int) then (if 1 < ((x0.drop (x5 : Int).toNat).length : Int) then (if 2 < ((x0.drop (x5 : Int).toNat).length : Int) then (if 3 < ((x0.drop (x5 : Int).toNat).length : Int) then (if 4 < ((x0.drop (x5 : Int).toNat).length : Int) then (if (wrap64 ((Go.bits .or .i64 (wrap64 ((wrap64 (rd (x0.drop (x5 : Int).toNat) 0)) * 256)) (wrap64 (rd (x0.drop (x5 : Int).toNat) 1))) + (Go.bits .or .i64 (wrap64 ((wrap64 (rd (x0.drop (x5 : Int).toNat) 2)) * 256)) (wrap64 (rd (x0.drop (x5 : Int).toNat) 3))))) = 65535 then (if (Go.bits .or .i64 (wrap64 ((wrap64 (rd (x0.drop (x5 : Int).toNat) 0)) * 256)) (wrap64 (rd (x0.drop (x5 : Int).toNat) 1))) > 60000 then (journal_Scan.j1 k x0 x4 x5 (x0.drop (x5 : Int).toNat) (Go.bits .or .i64 (wrap64 ((wrap64 (rd (x0.drop (x5 : Int).toNat) 0)) * 256)) (wrap64 (rd (x0.drop (x5 : Int).toNat) 1))) (wrap64 (rd (x0.drop (x5 : Int).toNat) 4)) true) else ((journal_known.f (wrap64 (rd (x0.drop (x5 : Int).toNat) 4))).bind fun t778 => (if t778 = true then (journal_Scan.j1 k x0 x4 x5 (x0.drop (x5 : Int).toNat) (Go.bits .or .i64 (wrap64 ((wrap64 (rd (x0.drop (x5 : Int).toNat) 0)) * 256)) (wrap64 (rd (x0.drop (x5 : Int).toNat) 1))) (wrap64 (rd (x0.drop (x5 : Int).toNat) 4)) (decide (((x0.drop (x5 : Int).toNat).length : Int) < (wrap64 ((wrap64 (5 + (Go.bits .or .i64 (wrap64 ((wrap64 (rd (x0.drop (x5 : Int).toNat) 0)) * 256)) (wrap64 (rd (x0.drop (x5 : Int).toNat) 1))))) + 4))))) else (journal_Scan.j1 k x0 x4 x5 (x0.drop (x5 : Int).toNat) (Go.bits .or .i64 (wrap64 ((wrap64 (rd (x0.drop (x5 : Int).toNat) 0)) * 256)) (wrap64 (rd (x0.drop (x5 : Int).toNat) 1))) (wrap64 (rd (x0.drop (x5 : Int).toNat) 4)) true)))) else (journal_Scan.j1 k x0 x4 x5 (x0.drop (x5 : Int).toNat) (Go.bits .or .i64 (wrap64 ((wrap64 (rd (x0.drop (x5 : Int).toNat) 0)) * 256)) (wrap64 (rd (x0.drop (x5 : Int).toNat) 1))) (wrap64 (rd (x0.drop (x5 : Int).toNat) 4)) true)) else (none)) else (none)) else (none)) else (none)) else (none)) else (none)) else (none)) else (some (x4, x5))
def journal_Scan.j1 : Nat → List Int → List (S57) → Int → List Int → Int → Int → Bool → Option ((List (S57)) × Int)
  | 0, _, _, _, _, _, _, _ => none
  | k + 1, x0, x4, x5, x6, x7, x9, x64 => if x64 = true then (some (x4, x5)) else (if 0 ≤ (wrap64 (5 + x7)) then (if (wrap64 (5 + x7)) ≤ (x6.length : Int) then ((journal_sum.f k (x6.take ((wrap64 (5 + x7)) : Int).toNat)).bind fun t780 => (journal_Scan.l1 k x0 x4 x5 x6 x7 x9 t780 (t780.length : Int) 0)) else (none)) else (none))
def journal_Scan.l1 : Nat → List Int → List (S57) → Int → List Int → Int → Int → List Int → Int → Int → Option ((List (S57)) × Int)
  | 0, _, _, _, _, _, _, _, _, _ => none
  | k + 1, x0, x4, x5, x6, x7, x9, x69, x70, x71 => if x71 < x70 then (if 0 ≤ x71 then (if x71 < (x69.length : Int) then (if 0 ≤ (wrap64 ((wrap64 (5 + x7)) + x71)) then (if (wrap64 ((wrap64 (5 + x7)) + x71)) < (x6.length : Int) then (if (rd x6 (wrap64 ((wrap64 (5 + x7)) + x71))) = (rd x69 x71) then (journal_Scan.l1 k x0 x4 x5 x6 x7 x9 x69 x70 (wrap64 (x71 + 1))) else (some (x4, x5))) else (none)) else (none)) else (none)) else (none)) else ((some (([] : List Int) : List Int)).bind fun y785 => (if 5 ≤ (wrap64 (5 + x7)) then (if (wrap64 (5 + x7)) ≤ (x6.length : Int) then (if y785.length + ((x6.take ((wrap64 (5 + x7)) : Int).toNat).drop 5).length < 140737488355328 then (if x4.length < 4398046511104 then (journal_Scan.l0 k x0 (x4 ++ [(⟨x9, (y785 ++ ((x6.take ((wrap64 (5 + x7)) : Int).toNat).drop 5))⟩ : S57)]) (wrap64 (x5 + (wrap64 ((wrap64 (5 + x7)) + 4))))) else (none)) else (none)) else (none)) else (none)))
end
def journal_Scan.f (k : Nat) (l0 : List Int) : Option ((List (S57)) × Int) := journal_Scan.l0 k l0 ([] : List (S57)) 0
theorem journal_Scan.mono_l : ∀ k, (∀ y0 y1 y2, LeO (journal_Scan.l0 k y0 y1 y2) (journal_Scan.l0 (k + 1) y0 y1 y2)) ∧ (∀ y0 y1 y2 y3 y4 y5 y6, LeO (journal_Scan.j1 k y0 y1 y2 y3 y4 y5 y6) (journal_Scan.j1 (k + 1) y0 y1 y2 y3 y4 y5 y6)) ∧ (∀ y0 y1 y2 y3 y4 y5 y6 y7 y8, LeO (journal_Scan.l1 k y0 y1 y2 y3 y4 y5 y6 y7 y8) (journal_Scan.l1 (k + 1) y0 y1 y2 y3 y4 y5 y6 y7 y8))
  | 0 => ⟨fun _ _ _ r h => by simp [journal_Scan.l0] at h, fun _ _ _ _ _ _ _ r h => by simp [journal_Scan.j1] at h, fun _ _ _ _ _ _ _ _ _ r h => by simp [journal_Scan.l1] at h⟩
  | k + 1 => by
    obtain ⟨ih0, ih1, ih2⟩ := journal_Scan.mono_l k
    refine ⟨?_, ?_, ?_⟩
    · intro y0 y1 y2
      unfold journal_Scan.l0
      repeat' first
      | (with_reducible exact ih0 _ _ _)
      | (with_reducible exact ih1 _ _ _ _ _ _ _)
      | (with_reducible exact ih2 _ _ _ _ _ _ _ _ _)
      | (with_reducible exact journal_sum.mono _ _)
      | (with_reducible exact LeO.refl _)
      | (with_reducible exact LeO.none _)
      | (with_reducible refine LeO.ite ?_ ?_)
      | (with_reducible refine LeO.bind ?_ (fun _ => ?_))
      | exact ih0 _ _ _
      | exact ih1 _ _ _ _ _ _ _
      | exact ih2 _ _ _ _ _ _ _ _ _
      | exact journal_sum.mono _ _
      | exact LeO.none _
      | refine LeO.ite ?_ ?_
      | refine LeO.bind ?_ (fun _ => ?_)
    · intro y0 y1 y2 y3 y4 y5 y6
      unfold journal_Scan.j1
      repeat' first
      | (with_reducible exact ih0 _ _ _)
      | (with_reducible exact ih1 _ _ _ _ _ _ _)
      | (with_reducible exact ih2 _ _ _ _ _ _ _ _ _)
      | (with_reducible exact journal_sum.mono _ _)
      | (with_reducible exact LeO.refl _)
      | (with_reducible exact LeO.none _)
      | (with_reducible refine LeO.ite ?_ ?_)
      | (with_reducible refine LeO.bind ?_ (fun _ => ?_))
      | exact ih0 _ _ _
      | exact ih1 _ _ _ _ _ _ _
      | exact ih2 _ _ _ _ _ _ _ _ _
      | exact journal_sum.mono _ _
      | exact LeO.none _
      | refine LeO.ite ?_ ?_
      | refine LeO.bind ?_ (fun _ => ?_)
    · intro y0 y1 y2 y3 y4 y5 y6 y7 y8
      unfold journal_Scan.l1
      repeat' first
      | (with_reducible exact ih0 _ _ _)
      | (with_reducible exact ih1 _ _ _ _ _ _ _)
      | (with_reducible exact ih2 _ _ _ _ _ _ _ _ _)
      | (with_reducible exact journal_sum.mono _ _)
      | (with_reducible exact LeO.refl _)
      | (with_reducible exact LeO.none _)
      | (with_reducible refine LeO.ite ?_ ?_)
      | (with_reducible refine LeO.bind ?_ (fun _ => ?_))
      | exact ih0 _ _ _
      | exact ih1 _ _ _ _ _ _ _
      | exact ih2 _ _ _ _ _ _ _ _ _
      | exact journal_sum.mono _ _
      | exact LeO.none _
      | refine LeO.ite ?_ ?_
      | refine LeO.bind ?_ (fun _ => ?_)
theorem journal_Scan.mono : ∀ a0 k, LeO (journal_Scan.f k a0) (journal_Scan.f (k + 1) a0) := by
  intro a0 k
  obtain ⟨ih0, ih1, ih2⟩ := journal_Scan.mono_l k
  unfold journal_Scan.f
  repeat' first
      | (with_reducible exact ih0 _ _ _)
      | (with_reducible exact ih1 _ _ _ _ _ _ _)
      | (with_reducible exact ih2 _ _ _ _ _ _ _ _ _)
      | (with_reducible exact journal_sum.mono _ _)
      | (with_reducible exact LeO.refl _)
      | (with_reducible exact LeO.none _)
      | (with_reducible refine LeO.ite ?_ ?_)
      | (with_reducible refine LeO.bind ?_ (fun _ => ?_))
      | exact ih0 _ _ _
      | exact ih1 _ _ _ _ _ _ _
      | exact ih2 _ _ _ _ _ _ _ _ _
      | exact journal_sum.mono _ _
      | exact LeO.none _
      | refine LeO.ite ?_ ?_
      | refine LeO.bind ?_ (fun _ => ?_)
set_option maxHeartbeats 8000000 in
set_option maxRecDepth 100000 in
theorem journal_Scan.calls (k : Nat) (A0 : Option Addr) (c0 : Nat) (l0 : List Int) (r1 : List (S57)) (r2 : Int) (w : World) (hr0 : Kd.C (Kd.int .u8) w A0 l0.length l0) (hc0 : l0.length ≤ c0) (h : journal_Scan.f k l0 = some (r1, r2)) :
    Calls Try.prog 53 #[.slice A0 l0.length c0] w fun e w' => ∃ v0_ : Value, e = .returned (.tuple #[v0_, .int .i64 r2]) ∧ Kd.S k57 57 w' w.heap.size (fun _ => True) v0_ r1 ∧ Below w.heap.size w w' := by
  have hu57 := Try.underlying57
  have HR0 := Aside0.mk hr0
  have HC0 := Aside0.mk hc0
  clear hr0 hc0
  have HB := Aside0.mk (Below.refl w.heap.size w)
  have H : (journal_Scan.l0 k l0 ([] : List (S57)) 0) = some (r1, r2) := h
  clear h
  go_enter Try.func53, Try.ntmps53
  go_wp2
  repeat (go_quiet (fail); try go_wp2)
  go_step3
  go_wp2
  repeat (go_quiet (fail); try go_wp2)
  go_step3
  have H' := Aside0.mk H
  clear H
  go_wp2
  repeat (go_quiet (fail); try go_wp2)
  go_loopg [4, 5] k (fun kq v4 v5 w' => ∃ (x4_1 : List (S57)) (x5_1 : Int), v5 = .int .i64 x5_1 ∧ Aside0 (journal_Scan.l0 kq l0 x4_1 x5_1 = some (r1, r2)) ∧ Aside0 (kq ≤ k) ∧ Aside0 (Kd.S k57 57 w' w.heap.size (fun _ => True) v4 x4_1) ∧ Aside0 (Below w.heap.size w w'))
  case atStart => exact ⟨(([] : List (S57))), (0), (by first | rfl | (simp; done) | (simp [*]; done)), H', ⟨Nat.le_refl _⟩, ⟨by first | exact Kd.S_nil _ _ _ _ _ | exact Kd.N_nil _ _ _ _ _ | exact Kd.V_nil _ _ _ _ _ | exact Kd.Q_nil _ _ _ _ _ | exact Kd.R_nil _ _ _ _ _⟩, ⟨by repeat (first | (with_reducible first | exact HB.out | apply below_alloc | apply pw_below_drewN | apply below_drew1) | exact HB.out)⟩⟩
  case round =>
    clear H'
    obtain ⟨x4_1, x5_1, rfl, HA, HK1, HO_4, HB⟩ := hrel
    cases gk with
    | zero => exact absurd HA.out (by simp [journal_Scan.l0])
    | succ k1 =>
      have H := HA.out
      clear HA
      simp only [journal_Scan.l0] at H
      by_cases c2 : (wrap64 ((l0.length : Int) - x5_1)) ≥ 9
      · rw [if_pos c2] at H
        have c2b0 : decide (9 ≤ (wrap64 ((l0.length : Int) - x5_1))) = true := decide_eq_true c2
        clear c2
        by_cases c3 : 0 ≤ x5_1
        · rw [if_pos c3] at H
          have c3b0 := eq_true c3
          have c3b1 : decide (0 ≤ x5_1) = true := decide_eq_true c3
          clear c3
          by_cases c4 : x5_1 ≤ (l0.length : Int)
          · rw [if_pos c4] at H
            have c4b0 := eq_true c4
            have c4b1 : decide (x5_1 ≤ (l0.length : Int)) = true := decide_eq_true c4
            clear c4
            by_cases c5 : 0 < ((l0.drop (x5_1 : Int).toNat).length : Int)
            · rw [if_pos c5] at H
              have c5b0 : decide (0 < ((l0.drop (x5_1 : Int).toNat).length : Int)) = true := decide_eq_true c5
              have c5b1 : decide (0 < (l0.drop (x5_1 : Int).toNat).length) = true := decide_eq_true (by omega)
              clear c5
              by_cases c6 : 1 < ((l0.drop (x5_1 : Int).toNat).length : Int)
              · rw [if_pos c6] at H
                have c6b0 : decide (1 < ((l0.drop (x5_1 : Int).toNat).length : Int)) = true := decide_eq_true c6
                have c6b1 : decide (1 < (l0.drop (x5_1 : Int).toNat).length) = true := decide_eq_true (by omega)
                clear c6
                by_cases c7 : 2 < ((l0.drop (x5_1 : Int).toNat).length : Int)
                · rw [if_pos c7] at H
                  have c7b0 : decide (2 < ((l0.drop (x5_1 : Int).toNat).length : Int)) = true := decide_eq_true c7
                  have c7b1 : decide (2 < (l0.drop (x5_1 : Int).toNat).length) = true := decide_eq_true (by omega)
                  clear c7
                  by_cases c8 : 3 < ((l0.drop (x5_1 : Int).toNat).length : Int)
                  · rw [if_pos c8] at H
                    have c8b0 : decide (3 < ((l0.drop (x5_1 : Int).toNat).length : Int)) = true := decide_eq_true c8
                    have c8b1 : decide (3 < (l0.drop (x5_1 : Int).toNat).length) = true := decide_eq_true (by omega)
                    clear c8
                    by_cases c9 : 4 < ((l0.drop (x5_1 : Int).toNat).length : Int)
                    · rw [if_pos c9] at H
                      have c9b0 : decide (4 < ((l0.drop (x5_1 : Int).toNat).length : Int)) = true := decide_eq_true c9
                      have c9b1 : decide (4 < (l0.drop (x5_1 : Int).toNat).length) = true := decide_eq_true (by omega)
                      clear c9
                      have HC10 := Aside0.mk H
                      clear H
                      obtain ⟨i011, hi011, _, hsz11, _⟩ := info_parts info5
                      obtain ⟨A11, hcut11, hA11, hC11⟩ := print_drop_of (P := Try.prog) (Value.int .u8) 0 22 5 .i64 Try.underlying22 hi011 hsz11 A0 c0 l0 x5_1 (of_decide_eq_true (by first | (with_reducible assumption) | assumption)) (of_decide_eq_true (by first | (with_reducible assumption) | assumption)) HC0.out
                      have HR772 := Aside0.mk (Kd.C_of_reads (h1 := fun _ => rfl) (hA11 _ (Kd.reads_of_C HR0.out)))
                      have HC772 := Aside0.mk hC11
                      clear hA11 hC11 hi011 hsz11
                      have p773 : 0 ≤ (0 : Int) := (by omega)
                      have q773 : 0 < ((l0.drop (x5_1 : Int).toNat).length : Int) := of_decide_eq_true (by first | (with_reducible assumption) | assumption)
                      obtain ⟨ad773, e773, hx773_0⟩ := Kd.at_int HR772.out 0 p773 q773
                      cases e773
                      have qi773 : (0 < (l0.drop (x5_1 : Int).toNat).length) = True := eq_true (by omega)
                      (try rw [show ((0 : Int)).toNat = 0 from rfl] at hx773_0)
                      (try rw [Addr.add_zero'] at hx773_0)
                      replace hx773_0 := (HB.out.cell (World.block_lt_of_cell? w _ hx773_0)).trans hx773_0
                      (try (have qv773 := eq_true q773; simp only [List.length_drop] at qv773))
                      (try (have qw773 := qi773; simp only [List.length_drop] at qw773))
                      replace p773 := eq_true p773
                      replace q773 := eq_true q773
                      have p774 : 0 ≤ (1 : Int) := (by omega)
                      have q774 : 1 < ((l0.drop (x5_1 : Int).toNat).length : Int) := of_decide_eq_true (by first | (with_reducible assumption) | assumption)
                      obtain ⟨ad774, e774, hx774_0⟩ := Kd.at_int HR772.out 1 p774 q774
                      obtain rfl : ad773 = ad774 := (by injection e774)
                      (try simp only [show (1 : Int).toNat = 1 from rfl, Nat.reduceMul, Nat.reduceEqDiff, Go.Addr.add, ↓reduceIte] at hx774_0)
                      have qi774 : (1 < (l0.drop (x5_1 : Int).toNat).length) = True := eq_true (by omega)
                      (try rw [show ((1 : Int)).toNat = 1 from rfl] at hx774_0)
                      replace hx774_0 := (HB.out.cell (World.block_lt_of_cell? w _ hx774_0)).trans hx774_0
                      (try (have qv774 := eq_true q774; simp only [List.length_drop] at qv774))
                      (try (have qw774 := qi774; simp only [List.length_drop] at qw774))
                      replace p774 := eq_true p774
                      replace q774 := eq_true q774
                      have p775 : 0 ≤ (2 : Int) := (by omega)
                      have q775 : 2 < ((l0.drop (x5_1 : Int).toNat).length : Int) := of_decide_eq_true (by first | (with_reducible assumption) | assumption)
                      obtain ⟨ad775, e775, hx775_0⟩ := Kd.at_int HR772.out 2 p775 q775
                      obtain rfl : ad773 = ad775 := (by injection e775)
                      (try simp only [show (2 : Int).toNat = 2 from rfl, Nat.reduceMul, Nat.reduceEqDiff, Go.Addr.add, ↓reduceIte] at hx775_0)
                      have qi775 : (2 < (l0.drop (x5_1 : Int).toNat).length) = True := eq_true (by omega)
                      (try rw [show ((2 : Int)).toNat = 2 from rfl] at hx775_0)
                      replace hx775_0 := (HB.out.cell (World.block_lt_of_cell? w _ hx775_0)).trans hx775_0
                      (try (have qv775 := eq_true q775; simp only [List.length_drop] at qv775))
                      (try (have qw775 := qi775; simp only [List.length_drop] at qw775))
                      replace p775 := eq_true p775
                      replace q775 := eq_true q775
                      have p776 : 0 ≤ (3 : Int) := (by omega)
                      have q776 : 3 < ((l0.drop (x5_1 : Int).toNat).length : Int) := of_decide_eq_true (by first | (with_reducible assumption) | assumption)
                      obtain ⟨ad776, e776, hx776_0⟩ := Kd.at_int HR772.out 3 p776 q776
                      obtain rfl : ad773 = ad776 := (by injection e776)
                      (try simp only [show (3 : Int).toNat = 3 from rfl, Nat.reduceMul, Nat.reduceEqDiff, Go.Addr.add, ↓reduceIte] at hx776_0)
                      have qi776 : (3 < (l0.drop (x5_1 : Int).toNat).length) = True := eq_true (by omega)
                      (try rw [show ((3 : Int)).toNat = 3 from rfl] at hx776_0)
                      replace hx776_0 := (HB.out.cell (World.block_lt_of_cell? w _ hx776_0)).trans hx776_0
                      (try (have qv776 := eq_true q776; simp only [List.length_drop] at qv776))
                      (try (have qw776 := qi776; simp only [List.length_drop] at qw776))
                      replace p776 := eq_true p776
                      replace q776 := eq_true q776
                      have p777 : 0 ≤ (4 : Int) := (by omega)
                      have q777 : 4 < ((l0.drop (x5_1 : Int).toNat).length : Int) := of_decide_eq_true (by first | (with_reducible assumption) | assumption)
                      obtain ⟨ad777, e777, hx777_0⟩ := Kd.at_int HR772.out 4 p777 q777
                      obtain rfl : ad773 = ad777 := (by injection e777)
                      (try simp only [show (4 : Int).toNat = 4 from rfl, Nat.reduceMul, Nat.reduceEqDiff, Go.Addr.add, ↓reduceIte] at hx777_0)
                      have qi777 : (4 < (l0.drop (x5_1 : Int).toNat).length) = True := eq_true (by omega)
                      (try rw [show ((4 : Int)).toNat = 4 from rfl] at hx777_0)
                      replace hx777_0 := (HB.out.cell (World.block_lt_of_cell? w _ hx777_0)).trans hx777_0
                      (try (have qv777 := eq_true q777; simp only [List.length_drop] at qv777))
                      (try (have qw777 := qi777; simp only [List.length_drop] at qw777))
                      replace p777 := eq_true p777
                      replace q777 := eq_true q777
                      go_upto_region 6 with (fail)
                      repeat (go_quiet (fail); go_upto_region 6 with (fail))
                      go_cut [64] (fun v64 wc => ∃ (kq : Nat) (x64_9 : Bool), v64 = .bool x64_9 ∧ Aside0 (journal_Scan.j1 kq l0 x4_1 x5_1 (l0.drop (x5_1 : Int).toNat) (Go.bits .or .i64 (wrap64 ((wrap64 (rd (l0.drop (x5_1 : Int).toNat) 0)) * 256)) (wrap64 (rd (l0.drop (x5_1 : Int).toNat) 1))) (wrap64 (rd (l0.drop (x5_1 : Int).toNat) 4)) x64_9 = some (r1, r2)) ∧ Aside0 (kq ≤ k1) ∧ Aside0 (Kd.S k57 57 wc w.heap.size (fun _ => True) u4 x4_1) ∧ Aside0 (Below w.heap.size w wc))
                      case first =>
                        have H := HC10.out
                        clear HC10
                        by_cases c12 : (wrap64 ((Go.bits .or .i64 (wrap64 ((wrap64 (rd (l0.drop (x5_1 : Int).toNat) 0)) * 256)) (wrap64 (rd (l0.drop (x5_1 : Int).toNat) 1))) + (Go.bits .or .i64 (wrap64 ((wrap64 (rd (l0.drop (x5_1 : Int).toNat) 2)) * 256)) (wrap64 (rd (l0.drop (x5_1 : Int).toNat) 3))))) = 65535
                        · rw [if_pos c12] at H
                          have c12b0 : ((wrap64 ((Go.bits .or .i64 (wrap64 ((wrap64 (rd (l0.drop (x5_1 : Int).toNat) 0)) * 256)) (wrap64 (rd (l0.drop (x5_1 : Int).toNat) 1))) + (Go.bits .or .i64 (wrap64 ((wrap64 (rd (l0.drop (x5_1 : Int).toNat) 2)) * 256)) (wrap64 (rd (l0.drop (x5_1 : Int).toNat) 3))))) == 65535) = true := beq_iff_eq.mpr c12
                          have c12b1 : ((wrap64 ((Go.bits .or .i64 (wrap64 ((wrap64 (rd (l0.drop (x5_1 : Int).toNat) 0)) * 256)) (wrap64 (rd (l0.drop (x5_1 : Int).toNat) 1))) + (Go.bits .or .i64 (wrap64 ((wrap64 (rd (l0.drop (x5_1 : Int).toNat) 2)) * 256)) (wrap64 (rd (l0.drop (x5_1 : Int).toNat) 3))))) != 65535) = false := bne_eq_false_iff_eq.mpr c12
                          clear c12
                          (first | rw [c12b0] | (simp only [i64_w, i32_w]; rw [c12b0]) | skip)
                          by_cases c13 : (Go.bits .or .i64 (wrap64 ((wrap64 (rd (l0.drop (x5_1 : Int).toNat) 0)) * 256)) (wrap64 (rd (l0.drop (x5_1 : Int).toNat) 1))) > 60000
                          · rw [if_pos c13] at H
                            have c13b0 : decide (60000 < (Go.bits .or .i64 (wrap64 ((wrap64 (rd (l0.drop (x5_1 : Int).toNat) 0)) * 256)) (wrap64 (rd (l0.drop (x5_1 : Int).toNat) 1)))) = true := decide_eq_true c13
                            clear c13
                            have H' := Aside0.mk H
                            clear H
                            go_wp2
                            repeat (go_quiet (fail); try go_wp2)
                            go_meet
                            case rel => exact ⟨_, (true), (by first | rfl | (simp; done) | (simp [*]; done)), H', ⟨by have := HK1.out; first | omega | exact Nat.le_refl _⟩, ⟨by (with_reducible repeat (first | apply Kd.S_alloc | apply Kd.S_drewN | apply Kd.S_drew)); exact HO_4.out⟩, ⟨by repeat (first | (with_reducible first | exact HB.out | apply below_alloc | apply pw_below_drewN | apply below_drew1) | exact HB.out)⟩⟩
                          · rw [if_neg c13] at H
                            have c13b0 : decide (60000 < (Go.bits .or .i64 (wrap64 ((wrap64 (rd (l0.drop (x5_1 : Int).toNat) 0)) * 256)) (wrap64 (rd (l0.drop (x5_1 : Int).toNat) 1)))) = false := decide_eq_false c13
                            clear c13
                            replace H := Option.bind_eq_some_iff.mp H
                            obtain ⟨t778, A140, H⟩ := H
                            replace H : (if t778 = true then (journal_Scan.j1 k1 l0 x4_1 x5_1 (l0.drop (x5_1 : Int).toNat) (Go.bits .or .i64 (wrap64 ((wrap64 (rd (l0.drop (x5_1 : Int).toNat) 0)) * 256)) (wrap64 (rd (l0.drop (x5_1 : Int).toNat) 1))) (wrap64 (rd (l0.drop (x5_1 : Int).toNat) 4)) (decide (((l0.drop (x5_1 : Int).toNat).length : Int) < (wrap64 ((wrap64 (5 + (Go.bits .or .i64 (wrap64 ((wrap64 (rd (l0.drop (x5_1 : Int).toNat) 0)) * 256)) (wrap64 (rd (l0.drop (x5_1 : Int).toNat) 1))))) + 4))))) else (journal_Scan.j1 k1 l0 x4_1 x5_1 (l0.drop (x5_1 : Int).toNat) (Go.bits .or .i64 (wrap64 ((wrap64 (rd (l0.drop (x5_1 : Int).toNat) 0)) * 256)) (wrap64 (rd (l0.drop (x5_1 : Int).toNat) 1))) (wrap64 (rd (l0.drop (x5_1 : Int).toNat) 4)) true)) = some (r1, r2) := H
                            have A14 := Aside0.mk A140
                            clear A140
                            by_cases c15 : t778 = true
                            · subst c15
                              have H1 : (journal_Scan.j1 k1 l0 x4_1 x5_1 (l0.drop (x5_1 : Int).toNat) (Go.bits .or .i64 (wrap64 ((wrap64 (rd (l0.drop (x5_1 : Int).toNat) 0)) * 256)) (wrap64 (rd (l0.drop (x5_1 : Int).toNat) 1))) (wrap64 (rd (l0.drop (x5_1 : Int).toNat) 4)) (decide (((l0.drop (x5_1 : Int).toNat).length : Int) < (wrap64 ((wrap64 (5 + (Go.bits .or .i64 (wrap64 ((wrap64 (rd (l0.drop (x5_1 : Int).toNat) 0)) * 256)) (wrap64 (rd (l0.drop (x5_1 : Int).toNat) 1))))) + 4))))) = some (r1, r2) := by rw [if_pos rfl] at H; exact H
                              clear H
                              have H := H1
                              clear H1
                              have H' := Aside0.mk H
                              clear H
                              go_wp2_with (first | (go_at_call 75; (with_reducible refine (journal_known.calls (wrap64 (rd (l0.drop (x5_1 : Int).toNat) 4)) true _ A14.out).mono ?_); rintro e w' ⟨rfl, ⟨nd, rfl⟩⟩; (try first | exact ⟨rfl, _, World.drewN_drewN _ _ _⟩ | exact ⟨rfl, _, Eq.trans (World.drewN_drewN _ _ _) (congrArg (World.drewN _) (Nat.add_assoc _ _ _))⟩)))
                              repeat (go_quiet (first | (go_at_call 75; (with_reducible refine (journal_known.calls (wrap64 (rd (l0.drop (x5_1 : Int).toNat) 4)) true _ A14.out).mono ?_); rintro e w' ⟨rfl, ⟨nd, rfl⟩⟩; (try first | exact ⟨rfl, _, World.drewN_drewN _ _ _⟩ | exact ⟨rfl, _, Eq.trans (World.drewN_drewN _ _ _) (congrArg (World.drewN _) (Nat.add_assoc _ _ _))⟩))); try go_wp2_with (first | (go_at_call 75; (with_reducible refine (journal_known.calls (wrap64 (rd (l0.drop (x5_1 : Int).toNat) 4)) true _ A14.out).mono ?_); rintro e w' ⟨rfl, ⟨nd, rfl⟩⟩; (try first | exact ⟨rfl, _, World.drewN_drewN _ _ _⟩ | exact ⟨rfl, _, Eq.trans (World.drewN_drewN _ _ _) (congrArg (World.drewN _) (Nat.add_assoc _ _ _))⟩))))
                              go_meet
                              case rel => exact ⟨_, (decide (((l0.drop (x5_1 : Int).toNat).length : Int) < (wrap64 ((wrap64 (5 + (Go.bits .or .i64 (wrap64 ((wrap64 (rd (l0.drop (x5_1 : Int).toNat) 0)) * 256)) (wrap64 (rd (l0.drop (x5_1 : Int).toNat) 1))))) + 4)))), (by first | rfl | (simp; done) | (simp [*]; done)), H', ⟨by have := HK1.out; first | omega | exact Nat.le_refl _⟩, ⟨by (with_reducible repeat (first | apply Kd.S_alloc | apply Kd.S_drewN | apply Kd.S_drew)); exact HO_4.out⟩, ⟨by repeat (first | (with_reducible first | exact HB.out | apply below_alloc | apply pw_below_drewN | apply below_drew1) | exact HB.out)⟩⟩
                            · replace c15 := Bool.eq_false_iff.mpr c15
                              subst c15
                              have H1 : (journal_Scan.j1 k1 l0 x4_1 x5_1 (l0.drop (x5_1 : Int).toNat) (Go.bits .or .i64 (wrap64 ((wrap64 (rd (l0.drop (x5_1 : Int).toNat) 0)) * 256)) (wrap64 (rd (l0.drop (x5_1 : Int).toNat) 1))) (wrap64 (rd (l0.drop (x5_1 : Int).toNat) 4)) true) = some (r1, r2) := by rw [if_neg (show ¬ (false = true) by decide)] at H; exact H
                              clear H
                              have H := H1
                              clear H1
                              have H' := Aside0.mk H
                              clear H
                              go_wp2_with (first | (go_at_call 75; (with_reducible refine (journal_known.calls (wrap64 (rd (l0.drop (x5_1 : Int).toNat) 4)) false _ A14.out).mono ?_); rintro e w' ⟨rfl, ⟨nd, rfl⟩⟩; (try first | exact ⟨rfl, _, World.drewN_drewN _ _ _⟩ | exact ⟨rfl, _, Eq.trans (World.drewN_drewN _ _ _) (congrArg (World.drewN _) (Nat.add_assoc _ _ _))⟩)))
                              repeat (go_quiet (first | (go_at_call 75; (with_reducible refine (journal_known.calls (wrap64 (rd (l0.drop (x5_1 : Int).toNat) 4)) false _ A14.out).mono ?_); rintro e w' ⟨rfl, ⟨nd, rfl⟩⟩; (try first | exact ⟨rfl, _, World.drewN_drewN _ _ _⟩ | exact ⟨rfl, _, Eq.trans (World.drewN_drewN _ _ _) (congrArg (World.drewN _) (Nat.add_assoc _ _ _))⟩))); try go_wp2_with (first | (go_at_call 75; (with_reducible refine (journal_known.calls (wrap64 (rd (l0.drop (x5_1 : Int).toNat) 4)) false _ A14.out).mono ?_); rintro e w' ⟨rfl, ⟨nd, rfl⟩⟩; (try first | exact ⟨rfl, _, World.drewN_drewN _ _ _⟩ | exact ⟨rfl, _, Eq.trans (World.drewN_drewN _ _ _) (congrArg (World.drewN _) (Nat.add_assoc _ _ _))⟩))))
                              go_meet
                              case rel => exact ⟨_, (true), (by first | rfl | (simp; done) | (simp [*]; done)), H', ⟨by have := HK1.out; first | omega | exact Nat.le_refl _⟩, ⟨by (with_reducible repeat (first | apply Kd.S_alloc | apply Kd.S_drewN | apply Kd.S_drew)); exact HO_4.out⟩, ⟨by repeat (first | (with_reducible first | exact HB.out | apply below_alloc | apply pw_below_drewN | apply below_drew1) | exact HB.out)⟩⟩
                        · rw [if_neg c12] at H
                          have c12b0 : ((wrap64 ((Go.bits .or .i64 (wrap64 ((wrap64 (rd (l0.drop (x5_1 : Int).toNat) 0)) * 256)) (wrap64 (rd (l0.drop (x5_1 : Int).toNat) 1))) + (Go.bits .or .i64 (wrap64 ((wrap64 (rd (l0.drop (x5_1 : Int).toNat) 2)) * 256)) (wrap64 (rd (l0.drop (x5_1 : Int).toNat) 3))))) == 65535) = false := beq_eq_false_iff_ne.mpr c12
                          have c12b1 : ((wrap64 ((Go.bits .or .i64 (wrap64 ((wrap64 (rd (l0.drop (x5_1 : Int).toNat) 0)) * 256)) (wrap64 (rd (l0.drop (x5_1 : Int).toNat) 1))) + (Go.bits .or .i64 (wrap64 ((wrap64 (rd (l0.drop (x5_1 : Int).toNat) 2)) * 256)) (wrap64 (rd (l0.drop (x5_1 : Int).toNat) 3))))) != 65535) = true := bne_iff_ne.mpr c12
                          (first | rw [c12b0] | (simp only [i64_w, i32_w]; rw [c12b0]) | skip)
                          have H' := Aside0.mk H
                          clear H
                          go_wp2
                          repeat (go_quiet (fail); try go_wp2)
                          go_meet
                          case rel => exact ⟨_, (true), (by first | rfl | (simp; done) | (simp [*]; done)), H', ⟨by have := HK1.out; first | omega | exact Nat.le_refl _⟩, ⟨by (with_reducible repeat (first | apply Kd.S_alloc | apply Kd.S_drewN | apply Kd.S_drew)); exact HO_4.out⟩, ⟨by repeat (first | (with_reducible first | exact HB.out | apply below_alloc | apply pw_below_drewN | apply below_drew1) | exact HB.out)⟩⟩
                      case rest =>
                        clear HC10
                        try clear c1
                        try clear c2
                        try clear c2b0
                        try clear p2
                        try clear c3
                        try clear c3b0
                        try clear c3b1
                        try clear p3
                        try clear c4
                        try clear c4b0
                        try clear c4b1
                        try clear c5
                        try clear c5b0
                        try clear c5b1
                        try clear c6
                        try clear c6b0
                        try clear c6b1
                        try clear p6
                        try clear c7
                        try clear c7b0
                        try clear c7b1
                        try clear p7
                        try clear q7
                        try clear hx7
                        try clear qi7
                        try clear c8
                        try clear c8b0
                        try clear c8b1
                        try clear c9
                        try clear c9b0
                        try clear c9b1
                        try clear c12
                        try clear c12b0
                        try clear c12b1
                        try clear c13
                        try clear c13b0
                        try clear c15
                        try clear hx773_0
                        try clear hx774_0
                        try clear hx775_0
                        try clear hx776_0
                        try clear hx777_0
                        try clear p773
                        try clear p774
                        try clear p775
                        try clear p776
                        try clear p777
                        try clear q773
                        try clear q774
                        try clear q775
                        try clear q776
                        try clear q777
                        obtain ⟨kq, x64_9, rfl, HA, HJ9, HO_4, HB⟩ := hcut
                        cases kq with
                        | zero => exact absurd HA.out (by simp [journal_Scan.j1])
                        | succ kj9 =>
                          have H := HA.out
                          clear HA
                          simp only [journal_Scan.j1] at H
                          by_cases c16 : x64_9 = true
                          · subst c16
                            have H1 : (some (x4_1, x5_1)) = some (r1, r2) := by rw [if_pos rfl] at H; exact H
                            clear H
                            have H := H1
                            clear H1
                            simp only [Option.some.injEq, Prod.mk.injEq] at H
                            obtain ⟨rfl, rfl⟩ := H
                            go_wp2
                            repeat (go_quiet (fail); try go_wp2)
                            (try rw [Exit.noGoto_ret])
                            go_ret2
                            exact ⟨_, by first | rfl | (simp [errW_none, errW_some] <;> rfl) | (simp [*, errW_none, errW_some] <;> rfl), by (with_reducible repeat (first | apply Kd.S_alloc | apply Kd.S_drewN | apply Kd.S_drew)); exact HO_4.out, by repeat (first | (with_reducible first | exact HB.out | apply below_alloc | apply pw_below_drewN | apply below_drew1) | exact HB.out)⟩
                          · replace c16 := Bool.eq_false_iff.mpr c16
                            subst c16
                            have H1 : (if 0 ≤ (wrap64 (5 + (Go.bits .or .i64 (wrap64 ((wrap64 (rd (l0.drop (x5_1 : Int).toNat) 0)) * 256)) (wrap64 (rd (l0.drop (x5_1 : Int).toNat) 1))))) then (if (wrap64 (5 + (Go.bits .or .i64 (wrap64 ((wrap64 (rd (l0.drop (x5_1 : Int).toNat) 0)) * 256)) (wrap64 (rd (l0.drop (x5_1 : Int).toNat) 1))))) ≤ ((l0.drop (x5_1 : Int).toNat).length : Int) then ((journal_sum.f kj9 ((l0.drop (x5_1 : Int).toNat).take ((wrap64 (5 + (Go.bits .or .i64 (wrap64 ((wrap64 (rd (l0.drop (x5_1 : Int).toNat) 0)) * 256)) (wrap64 (rd (l0.drop (x5_1 : Int).toNat) 1))))) : Int).toNat)).bind fun t780 => (journal_Scan.l1 kj9 l0 x4_1 x5_1 (l0.drop (x5_1 : Int).toNat) (Go.bits .or .i64 (wrap64 ((wrap64 (rd (l0.drop (x5_1 : Int).toNat) 0)) * 256)) (wrap64 (rd (l0.drop (x5_1 : Int).toNat) 1))) (wrap64 (rd (l0.drop (x5_1 : Int).toNat) 4)) t780 (t780.length : Int) 0)) else (none)) else (none)) = some (r1, r2) := by rw [if_neg (show ¬ (false = true) by decide)] at H; exact H
                            clear H
                            have H := H1
                            clear H1
                            obtain ⟨ji17, hji17⟩ : ∃ j_ : Int, (wrap64 (5 + (Go.bits .or .i64 (wrap64 ((wrap64 (rd (l0.drop (x5_1 : Int).toNat) 0)) * 256)) (wrap64 (rd (l0.drop (x5_1 : Int).toNat) 1))))) = j_ := ⟨_, rfl⟩
                            replace H : (if 0 ≤ (ji17) then (if (ji17) ≤ ((l0.drop (x5_1 : Int).toNat).length : Int) then ((journal_sum.f kj9 ((l0.drop (x5_1 : Int).toNat).take ((ji17) : Int).toNat)).bind fun t780 => (journal_Scan.l1 kj9 l0 x4_1 x5_1 (l0.drop (x5_1 : Int).toNat) (Go.bits .or .i64 (wrap64 ((wrap64 (rd (l0.drop (x5_1 : Int).toNat) 0)) * 256)) (wrap64 (rd (l0.drop (x5_1 : Int).toNat) 1))) (wrap64 (rd (l0.drop (x5_1 : Int).toNat) 4)) t780 (t780.length : Int) 0)) else (none)) else (none)) = some (r1, r2) := by first | (rw [hji17] at H; exact H) | (simp only [hji17] at H ⊢; exact H)
                            have hji17w : (IntKind.i64.wrap (5 + (Go.bits .or .i64 (wrap64 ((wrap64 (rd (l0.drop (x5_1 : Int).toNat) 0)) * 256)) (wrap64 (rd (l0.drop (x5_1 : Int).toNat) 1))))) = ji17 := (i64_w _).trans hji17
                            by_cases c18 : 0 ≤ (ji17)
                            · rw [if_pos c18] at H
                              have c18b0 := eq_true c18
                              have c18b1 : decide (0 ≤ (ji17)) = true := decide_eq_true c18
                              clear c18
                              by_cases c19 : (ji17) ≤ ((l0.drop (x5_1 : Int).toNat).length : Int)
                              · rw [if_pos c19] at H
                                have c19b0 := eq_true c19
                                have c19b1 : decide ((ji17) ≤ ((l0.drop (x5_1 : Int).toNat).length : Int)) = true := decide_eq_true c19
                                clear c19
                                replace H := Option.bind_eq_some_iff.mp H
                                obtain ⟨t780, A200, H⟩ := H
                                replace H : (journal_Scan.l1 kj9 l0 x4_1 x5_1 (l0.drop (x5_1 : Int).toNat) (Go.bits .or .i64 (wrap64 ((wrap64 (rd (l0.drop (x5_1 : Int).toNat) 0)) * 256)) (wrap64 (rd (l0.drop (x5_1 : Int).toNat) 1))) (wrap64 (rd (l0.drop (x5_1 : Int).toNat) 4)) t780 (t780.length : Int) 0) = some (r1, r2) := H
                                have A20 := Aside0.mk A200
                                clear A200
                                have H' := Aside0.mk H
                                clear H
                                obtain ⟨i021, hi021, _, hsz21, _⟩ := info_parts info5
                                obtain ⟨hcut21, hA21, hC21⟩ := print_take_of (P := Try.prog) (Value.int .u8) 0 22 5 .i64 Try.underlying22 hi021 hsz21 (some ad773) (c0 - x5_1.toNat) (l0.drop (x5_1 : Int).toNat) (ji17) (of_decide_eq_true (by first | (with_reducible assumption) | assumption)) (of_decide_eq_true (by first | (with_reducible assumption) | assumption)) HC772.out
                                have HR779 := Aside0.mk (Kd.C_of_reads (h1 := fun _ => rfl) (hA21 _ (Kd.reads_of_C HR772.out)))
                                have HC779 := Aside0.mk hC21
                                clear hA21 hC21 hi021 hsz21
                                (try (have hcuu21 := hcut21; rw [← drop_len l0 x5_1] at hcuu21))
                                go_wp2_with (first | (go_at_call 76; refine calls_of_args (args' := #[.slice (some ad773) ((l0.drop (x5_1 : Int).toNat).take ((ji17) : Int).toNat).length (c0 - x5_1.toNat)]) (by first | rfl | (rw [← take_len (l0.drop (x5_1 : Int).toNat) (ji17) (by assumption)]; done) | (simp only [List.length_take, List.length_drop]; done) | (rw [show ((l0.drop (x5_1 : Int).toNat).take ((ji17) : Int).toNat).length = (ji17).toNat from (by rw [List.length_take]; have h_ : ((ji17) : Int) ≤ ((l0.drop (x5_1 : Int).toNat).length : Int) := of_decide_eq_true (by first | (with_reducible assumption) | assumption); omega)]; simp only [List.length_take, List.length_drop])) ?_; (with_reducible refine (journal_sum.calls kj9 _ _ ((l0.drop (x5_1 : Int).toNat).take ((ji17) : Int).toNat) t780 _ ?side1 ?side2 A20.out).mono ?_); (case side1 => repeat (first | exact (Kd.C_below HR779.out HB.out) | (with_reducible refine Kd.C_alloc ?_ _) | (with_reducible refine Kd.C_drewN ?_ _) | (with_reducible refine Kd.C_drew ?_))); (case side2 => exact HC779.out); rintro e w22 ⟨v781, rfl, ho0, hb⟩; have n0_ := Aside0.mk (Kd.S_elder' (by (with_reducible repeat (first | apply Kd.S_alloc | apply Kd.S_drewN | apply Kd.S_drew)); exact HO_4.out) (Kd.R_base ho0) hb); have n1_ := Aside0.mk (Kd.R_lower ho0 (below_size (by repeat (first | (with_reducible first | exact HB.out | apply below_alloc | apply pw_below_drewN | apply below_drew1) | exact HB.out)))); have n2_ := Aside0.mk (below_step (by repeat (first | (with_reducible first | exact HB.out | apply below_alloc | apply pw_below_drewN | apply below_drew1) | exact HB.out)) hb); clear HO_4; clear HB; have HO_4 := n0_; have HO782 := n1_; have HB := n2_; clear n0_ n1_ n2_; (try clear hb); (try clear hb2); (try clear hk); (try clear hi); (try clear ho0); obtain ⟨Ao23, co23, eo23⟩ := Kd.R_slice HO782.out; subst eo23))
                                repeat (go_quiet (first | (go_at_call 76; refine calls_of_args (args' := #[.slice (some ad773) ((l0.drop (x5_1 : Int).toNat).take ((ji17) : Int).toNat).length (c0 - x5_1.toNat)]) (by first | rfl | (rw [← take_len (l0.drop (x5_1 : Int).toNat) (ji17) (by assumption)]; done) | (simp only [List.length_take, List.length_drop]; done) | (rw [show ((l0.drop (x5_1 : Int).toNat).take ((ji17) : Int).toNat).length = (ji17).toNat from (by rw [List.length_take]; have h_ : ((ji17) : Int) ≤ ((l0.drop (x5_1 : Int).toNat).length : Int) := of_decide_eq_true (by first | (with_reducible assumption) | assumption); omega)]; simp only [List.length_take, List.length_drop])) ?_; (with_reducible refine (journal_sum.calls kj9 _ _ ((l0.drop (x5_1 : Int).toNat).take ((ji17) : Int).toNat) t780 _ ?side1 ?side2 A20.out).mono ?_); (case side1 => repeat (first | exact (Kd.C_below HR779.out HB.out) | (with_reducible refine Kd.C_alloc ?_ _) | (with_reducible refine Kd.C_drewN ?_ _) | (with_reducible refine Kd.C_drew ?_))); (case side2 => exact HC779.out); rintro e w22 ⟨v781, rfl, ho0, hb⟩; have n0_ := Aside0.mk (Kd.S_elder' (by (with_reducible repeat (first | apply Kd.S_alloc | apply Kd.S_drewN | apply Kd.S_drew)); exact HO_4.out) (Kd.R_base ho0) hb); have n1_ := Aside0.mk (Kd.R_lower ho0 (below_size (by repeat (first | (with_reducible first | exact HB.out | apply below_alloc | apply pw_below_drewN | apply below_drew1) | exact HB.out)))); have n2_ := Aside0.mk (below_step (by repeat (first | (with_reducible first | exact HB.out | apply below_alloc | apply pw_below_drewN | apply below_drew1) | exact HB.out)) hb); clear HO_4; clear HB; have HO_4 := n0_; have HO782 := n1_; have HB := n2_; clear n0_ n1_ n2_; (try clear hb); (try clear hb2); (try clear hk); (try clear hi); (try clear ho0); obtain ⟨Ao23, co23, eo23⟩ := Kd.R_slice HO782.out; subst eo23)); try go_wp2_with (first | (go_at_call 76; refine calls_of_args (args' := #[.slice (some ad773) ((l0.drop (x5_1 : Int).toNat).take ((ji17) : Int).toNat).length (c0 - x5_1.toNat)]) (by first | rfl | (rw [← take_len (l0.drop (x5_1 : Int).toNat) (ji17) (by assumption)]; done) | (simp only [List.length_take, List.length_drop]; done) | (rw [show ((l0.drop (x5_1 : Int).toNat).take ((ji17) : Int).toNat).length = (ji17).toNat from (by rw [List.length_take]; have h_ : ((ji17) : Int) ≤ ((l0.drop (x5_1 : Int).toNat).length : Int) := of_decide_eq_true (by first | (with_reducible assumption) | assumption); omega)]; simp only [List.length_take, List.length_drop])) ?_; (with_reducible refine (journal_sum.calls kj9 _ _ ((l0.drop (x5_1 : Int).toNat).take ((ji17) : Int).toNat) t780 _ ?side1 ?side2 A20.out).mono ?_); (case side1 => repeat (first | exact (Kd.C_below HR779.out HB.out) | (with_reducible refine Kd.C_alloc ?_ _) | (with_reducible refine Kd.C_drewN ?_ _) | (with_reducible refine Kd.C_drew ?_))); (case side2 => exact HC779.out); rintro e w22 ⟨v781, rfl, ho0, hb⟩; have n0_ := Aside0.mk (Kd.S_elder' (by (with_reducible repeat (first | apply Kd.S_alloc | apply Kd.S_drewN | apply Kd.S_drew)); exact HO_4.out) (Kd.R_base ho0) hb); have n1_ := Aside0.mk (Kd.R_lower ho0 (below_size (by repeat (first | (with_reducible first | exact HB.out | apply below_alloc | apply pw_below_drewN | apply below_drew1) | exact HB.out)))); have n2_ := Aside0.mk (below_step (by repeat (first | (with_reducible first | exact HB.out | apply below_alloc | apply pw_below_drewN | apply below_drew1) | exact HB.out)) hb); clear HO_4; clear HB; have HO_4 := n0_; have HO782 := n1_; have HB := n2_; clear n0_ n1_ n2_; (try clear hb); (try clear hb2); (try clear hk); (try clear hi); (try clear ho0); obtain ⟨Ao23, co23, eo23⟩ := Kd.R_slice HO782.out; subst eo23)))
                                go_loopg [71] kj9 (fun kq v71 w' => ∃ (x71_3 : Int), v71 = .int .i64 x71_3 ∧ Aside0 (journal_Scan.l1 kq l0 x4_1 x5_1 (l0.drop (x5_1 : Int).toNat) (Go.bits .or .i64 (wrap64 ((wrap64 (rd (l0.drop (x5_1 : Int).toNat) 0)) * 256)) (wrap64 (rd (l0.drop (x5_1 : Int).toNat) 1))) (wrap64 (rd (l0.drop (x5_1 : Int).toNat) 4)) t780 (t780.length : Int) x71_3 = some (r1, r2)) ∧ Aside0 (kq ≤ kj9) ∧ Aside0 (Kd.S k57 57 w' w.heap.size (fun k_ => some k_ ≠ ((.slice Ao23 t780.length co23) : Value).ownBlock) u4 x4_1) ∧ Aside0 (Kd.R (Kd.int .u8) 5 w' w.heap.size (fun _ => True) (.slice Ao23 t780.length co23) t780) ∧ Aside0 (Below w.heap.size w w'))
                                case atStart => exact ⟨(0), (by first | rfl | (simp; done) | (simp [*]; done)), H', ⟨Nat.le_refl _⟩, ⟨by (with_reducible repeat (first | apply Kd.S_alloc | apply Kd.S_drewN | apply Kd.S_drew)); exact Kd.S_mono HO_4.out (fun _ hk => hk.2)⟩, ⟨by (with_reducible repeat (first | apply Kd.R_alloc | apply Kd.R_drewN | apply Kd.R_drew)); exact HO782.out⟩, ⟨by repeat (first | (with_reducible first | exact HB.out | apply below_alloc | apply pw_below_drewN | apply below_drew1) | exact HB.out)⟩⟩
                                case round =>
                                  clear H'
                                  try clear c1
                                  try clear c2
                                  try clear c2b0
                                  try clear p2
                                  try clear c3
                                  try clear c3b0
                                  try clear c3b1
                                  try clear p3
                                  try clear c4
                                  try clear c4b0
                                  try clear c4b1
                                  try clear c5
                                  try clear c5b0
                                  try clear c5b1
                                  try clear c6
                                  try clear c6b0
                                  try clear c6b1
                                  try clear p6
                                  try clear c7
                                  try clear c7b0
                                  try clear c7b1
                                  try clear p7
                                  try clear q7
                                  try clear hx7
                                  try clear qi7
                                  try clear c8
                                  try clear c8b0
                                  try clear c8b1
                                  try clear c9
                                  try clear c9b0
                                  try clear c9b1
                                  try clear c12
                                  try clear c12b0
                                  try clear c12b1
                                  try clear c13
                                  try clear c13b0
                                  try clear c15
                                  try clear c16
                                  try clear c18
                                  try clear c18b0
                                  try clear c18b1
                                  try clear c19
                                  try clear c19b0
                                  try clear c19b1
                                  try clear hx773_0
                                  try clear hx774_0
                                  try clear hx775_0
                                  try clear hx776_0
                                  try clear hx777_0
                                  try clear p2
                                  try clear p3
                                  try clear p6
                                  try clear p7
                                  try clear p773
                                  try clear p774
                                  try clear p775
                                  try clear p776
                                  try clear p777
                                  try clear q7
                                  try clear q773
                                  try clear q774
                                  try clear q775
                                  try clear q776
                                  try clear q777
                                  obtain ⟨x71_3, rfl, HA, HK3, HO_4, HO_69, HB⟩ := hrel
                                  cases gk with
                                  | zero => exact absurd HA.out (by simp [journal_Scan.l1])
                                  | succ k3 =>
                                    have H := HA.out
                                    clear HA
                                    simp only [journal_Scan.l1] at H
                                    replace H : (if x71_3 < (t780.length : Int) then (if 0 ≤ x71_3 then (if x71_3 < (t780.length : Int) then (if 0 ≤ (wrap64 ((ji17) + x71_3)) then (if (wrap64 ((ji17) + x71_3)) < ((l0.drop (x5_1 : Int).toNat).length : Int) then (if (rd (l0.drop (x5_1 : Int).toNat) (wrap64 ((ji17) + x71_3))) = (rd t780 x71_3) then (journal_Scan.l1 k3 l0 x4_1 x5_1 (l0.drop (x5_1 : Int).toNat) (Go.bits .or .i64 (wrap64 ((wrap64 (rd (l0.drop (x5_1 : Int).toNat) 0)) * 256)) (wrap64 (rd (l0.drop (x5_1 : Int).toNat) 1))) (wrap64 (rd (l0.drop (x5_1 : Int).toNat) 4)) t780 (t780.length : Int) (wrap64 (x71_3 + 1))) else (some (x4_1, x5_1))) else (none)) else (none)) else (none)) else (none)) else ((some (([] : List Int) : List Int)).bind fun y785 => (if 5 ≤ (ji17) then (if (ji17) ≤ ((l0.drop (x5_1 : Int).toNat).length : Int) then (if y785.length + (((l0.drop (x5_1 : Int).toNat).take ((ji17) : Int).toNat).drop 5).length < 140737488355328 then (if x4_1.length < 4398046511104 then (journal_Scan.l0 k3 l0 (x4_1 ++ [(⟨(wrap64 (rd (l0.drop (x5_1 : Int).toNat) 4)), (y785 ++ (((l0.drop (x5_1 : Int).toNat).take ((ji17) : Int).toNat).drop 5))⟩ : S57)]) (wrap64 (x5_1 + (wrap64 ((ji17) + 4))))) else (none)) else (none)) else (none)) else (none)))) = some (r1, r2) := by first | (rw [hji17] at H; exact H) | (simp only [hji17] at H ⊢; exact H)
                                    by_cases c24 : x71_3 < (t780.length : Int)
                                    · rw [if_pos c24] at H
                                      have c24b0 : decide (x71_3 < (t780.length : Int)) = true := decide_eq_true c24
                                      clear c24
                                      by_cases c25 : 0 ≤ x71_3
                                      · rw [if_pos c25] at H
                                        have c25b0 : decide (0 ≤ x71_3) = true := decide_eq_true c25
                                        clear c25
                                        by_cases c26 : x71_3 < (t780.length : Int)
                                        · rw [if_pos c26] at H
                                          have c26b0 : decide (x71_3 < (t780.length : Int)) = true := decide_eq_true c26
                                          clear c26
                                          obtain ⟨ji27, hji27⟩ : ∃ j_ : Int, (wrap64 ((ji17) + x71_3)) = j_ := ⟨_, rfl⟩
                                          replace H : (if 0 ≤ (ji27) then (if (ji27) < ((l0.drop (x5_1 : Int).toNat).length : Int) then (if (rd (l0.drop (x5_1 : Int).toNat) (ji27)) = (rd t780 x71_3) then (journal_Scan.l1 k3 l0 x4_1 x5_1 (l0.drop (x5_1 : Int).toNat) (Go.bits .or .i64 (wrap64 ((wrap64 (rd (l0.drop (x5_1 : Int).toNat) 0)) * 256)) (wrap64 (rd (l0.drop (x5_1 : Int).toNat) 1))) (wrap64 (rd (l0.drop (x5_1 : Int).toNat) 4)) t780 (t780.length : Int) (wrap64 (x71_3 + 1))) else (some (x4_1, x5_1))) else (none)) else (none)) = some (r1, r2) := by first | (rw [hji27] at H; exact H) | (simp only [hji27] at H ⊢; exact H)
                                          have hji27w : (IntKind.i64.wrap ((ji17) + x71_3)) = ji27 := (i64_w _).trans hji27
                                          by_cases c28 : 0 ≤ (ji27)
                                          · rw [if_pos c28] at H
                                            have c28b0 : decide (0 ≤ (ji27)) = true := decide_eq_true c28
                                            clear c28
                                            by_cases c29 : (ji27) < ((l0.drop (x5_1 : Int).toNat).length : Int)
                                            · rw [if_pos c29] at H
                                              have c29b0 : decide ((ji27) < ((l0.drop (x5_1 : Int).toNat).length : Int)) = true := decide_eq_true c29
                                              clear c29
                                              by_cases c30 : (rd (l0.drop (x5_1 : Int).toNat) (ji27)) = (rd t780 x71_3)
                                              · rw [if_pos c30] at H
                                                have c30b0 : ((rd (l0.drop (x5_1 : Int).toNat) (ji27)) == (rd t780 x71_3)) = true := beq_iff_eq.mpr c30
                                                have c30b1 : ((rd (l0.drop (x5_1 : Int).toNat) (ji27)) != (rd t780 x71_3)) = false := bne_eq_false_iff_eq.mpr c30
                                                clear c30
                                                have H' := Aside0.mk H
                                                clear H
                                                have p783 : 0 ≤ (x71_3 : Int) := of_decide_eq_true (by first | (with_reducible assumption) | assumption)
                                                have q783 : x71_3 < (t780.length : Int) := of_decide_eq_true (by first | (with_reducible assumption) | assumption)
                                                obtain ⟨ad783, e783, hx783_0⟩ := Kd.at_int (Kd.R_reads' HO_69.out).2.2 x71_3 p783 q783
                                                cases e783
                                                replace p783 := eq_true p783
                                                replace q783 := eq_true q783
                                                have p784 : 0 ≤ ((ji27) : Int) := of_decide_eq_true (by first | (with_reducible assumption) | assumption)
                                                have q784 : (ji27) < ((l0.drop (x5_1 : Int).toNat).length : Int) := of_decide_eq_true (by first | (with_reducible assumption) | assumption)
                                                obtain ⟨ad784, e784, hx784_0⟩ := Kd.at_int HR772.out (ji27) p784 q784
                                                obtain rfl : ad773 = ad784 := (by injection e784)
                                                replace hx784_0 := (HB.out.cell (World.block_lt_of_cell? w _ hx784_0)).trans hx784_0
                                                (try (have qv784 := eq_true q784; simp only [List.length_drop] at qv784))
                                                (try (have qw784 := qi784; simp only [List.length_drop] at qw784))
                                                replace p784 := eq_true p784
                                                replace q784 := eq_true q784
                                                go_wp2
                                                repeat (go_quiet (fail); try go_wp2)
                                                go_roundg k3
                                                case measure => have := HK1.out; have := HJ9.out; have := HK3.out; omega
                                                case rel => exact ⟨(wrap64 (x71_3 + 1)), (by first | rfl | (simp; done) | (simp [*]; done)), H', ⟨by have := HK1.out; have := HJ9.out; have := HK3.out; omega⟩, ⟨by (with_reducible repeat (first | apply Kd.S_alloc | apply Kd.S_drewN | apply Kd.S_drew)); exact HO_4.out⟩, ⟨by (with_reducible repeat (first | apply Kd.R_alloc | apply Kd.R_drewN | apply Kd.R_drew)); exact HO_69.out⟩, ⟨by repeat (first | (with_reducible first | exact HB.out | apply below_alloc | apply pw_below_drewN | apply below_drew1) | exact HB.out)⟩⟩
                                              · rw [if_neg c30] at H
                                                have c30b0 : ((rd (l0.drop (x5_1 : Int).toNat) (ji27)) == (rd t780 x71_3)) = false := beq_eq_false_iff_ne.mpr c30
                                                have c30b1 : ((rd (l0.drop (x5_1 : Int).toNat) (ji27)) != (rd t780 x71_3)) = true := bne_iff_ne.mpr c30
                                                simp only [Option.some.injEq, Prod.mk.injEq] at H
                                                obtain ⟨rfl, rfl⟩ := H
                                                have p783 : 0 ≤ (x71_3 : Int) := of_decide_eq_true (by first | (with_reducible assumption) | assumption)
                                                have q783 : x71_3 < (t780.length : Int) := of_decide_eq_true (by first | (with_reducible assumption) | assumption)
                                                obtain ⟨ad783, e783, hx783_0⟩ := Kd.at_int (Kd.R_reads' HO_69.out).2.2 x71_3 p783 q783
                                                cases e783
                                                replace p783 := eq_true p783
                                                replace q783 := eq_true q783
                                                have p784 : 0 ≤ ((ji27) : Int) := of_decide_eq_true (by first | (with_reducible assumption) | assumption)
                                                have q784 : (ji27) < ((l0.drop (x5_1 : Int).toNat).length : Int) := of_decide_eq_true (by first | (with_reducible assumption) | assumption)
                                                obtain ⟨ad784, e784, hx784_0⟩ := Kd.at_int HR772.out (ji27) p784 q784
                                                obtain rfl : ad773 = ad784 := (by injection e784)
                                                replace hx784_0 := (HB.out.cell (World.block_lt_of_cell? w _ hx784_0)).trans hx784_0
                                                (try (have qv784 := eq_true q784; simp only [List.length_drop] at qv784))
                                                (try (have qw784 := qi784; simp only [List.length_drop] at qw784))
                                                replace p784 := eq_true p784
                                                replace q784 := eq_true q784
                                                go_wp2
                                                repeat (go_quiet (fail); try go_wp2)
                                                (try rw [Exit.noGoto_ret])
                                                go_ret2
                                                exact ⟨_, by first | rfl | (simp [errW_none, errW_some] <;> rfl) | (simp only [← hji17, ← hji27]; first | rfl | (simp [errW_none, errW_some] <;> rfl)) | (simp [*, errW_none, errW_some] <;> rfl), by (with_reducible repeat (first | apply Kd.S_alloc | apply Kd.S_drewN | apply Kd.S_drew)); exact Kd.S_mono HO_4.out (fun _ hk => trivial), by repeat (first | (with_reducible first | exact HB.out | apply below_alloc | apply pw_below_drewN | apply below_drew1) | exact HB.out)⟩
                                            · rw [if_neg c29] at H
                                              exact absurd H (by simp)
                                          · rw [if_neg c28] at H
                                            exact absurd H (by simp)
                                        · rw [if_neg c26] at H
                                          exact absurd H (by simp)
                                      · rw [if_neg c25] at H
                                        exact absurd H (by simp)
                                    · rw [if_neg c24] at H
                                      have c24b0 : decide (x71_3 < (t780.length : Int)) = false := decide_eq_false c24
                                      clear c24
                                      obtain ⟨y785, hy785⟩ : ∃ y_ : List Int, y_ = (([] : List Int)) := ⟨_, rfl⟩
                                      replace H : (if 5 ≤ (ji17) then (if (ji17) ≤ ((l0.drop (x5_1 : Int).toNat).length : Int) then (if y785.length + (((l0.drop (x5_1 : Int).toNat).take ((ji17) : Int).toNat).drop 5).length < 140737488355328 then (if x4_1.length < 4398046511104 then (journal_Scan.l0 k3 l0 (x4_1 ++ [(⟨(wrap64 (rd (l0.drop (x5_1 : Int).toNat) 4)), (y785 ++ (((l0.drop (x5_1 : Int).toNat).take ((ji17) : Int).toNat).drop 5))⟩ : S57)]) (wrap64 (x5_1 + (wrap64 ((ji17) + 4))))) else (none)) else (none)) else (none)) else (none)) = some (r1, r2) := by first | (rw [hy785]; with_reducible exact H) | (have H2_ := (Option.bind_some _ _).symm.trans H; rw [hy785]; with_reducible exact H2_) | (have H2_ := (Option.bind_some _ _).symm.trans H; with_reducible exact H2_) | with_reducible exact H | (rw [hy785]; exact H) | exact H
                                      have Ny785 := Aside0.mk hy785
                                      clear hy785
                                      by_cases c31 : 5 ≤ (ji17)
                                      · rw [if_pos c31] at H
                                        have c31b0 := eq_true c31
                                        have c31b1 : decide (5 ≤ (ji17)) = true := decide_eq_true c31
                                        clear c31
                                        by_cases c32 : (ji17) ≤ ((l0.drop (x5_1 : Int).toNat).length : Int)
                                        · rw [if_pos c32] at H
                                          have c32b0 := eq_true c32
                                          have c32b1 : decide ((ji17) ≤ ((l0.drop (x5_1 : Int).toNat).length : Int)) = true := decide_eq_true c32
                                          clear c32
                                          by_cases c33 : y785.length + (((l0.drop (x5_1 : Int).toNat).take ((ji17) : Int).toNat).drop 5).length < 140737488355328
                                          · rw [if_pos c33] at H
                                            have LMc33 := Aside0.mk c33
                                            clear c33
                                            obtain ⟨y789, hy789⟩ : ∃ y_ : List Int, y_ = (y785 ++ (((l0.drop (x5_1 : Int).toNat).take ((ji17) : Int).toNat).drop 5)) := ⟨_, rfl⟩
                                            replace H : (if x4_1.length < 4398046511104 then (journal_Scan.l0 k3 l0 (x4_1 ++ [(⟨(wrap64 (rd (l0.drop (x5_1 : Int).toNat) 4)), y789⟩ : S57)]) (wrap64 (x5_1 + (wrap64 ((ji17) + 4))))) else (none)) = some (r1, r2) := by first | (rw [hy789]; with_reducible exact H) | (have H2_ := (Option.bind_some _ _).symm.trans H; rw [hy789]; with_reducible exact H2_) | (have H2_ := (Option.bind_some _ _).symm.trans H; with_reducible exact H2_) | with_reducible exact H | (rw [hy789]; exact H) | exact H
                                            have Ny789 := Aside0.mk hy789
                                            clear hy789
                                            by_cases c34 : x4_1.length < 4398046511104
                                            · rw [if_pos c34] at H
                                              have LMc34 := Aside0.mk c34
                                              clear c34
                                              obtain ⟨y792, hy792⟩ : ∃ y_ : List (S57), y_ = (x4_1 ++ [(⟨(wrap64 (rd (l0.drop (x5_1 : Int).toNat) 4)), y789⟩ : S57)]) := ⟨_, rfl⟩
                                              replace H : (journal_Scan.l0 k3 l0 y792 (wrap64 (x5_1 + (wrap64 ((ji17) + 4))))) = some (r1, r2) := by first | (rw [hy792]; with_reducible exact H) | (have H2_ := (Option.bind_some _ _).symm.trans H; rw [hy792]; with_reducible exact H2_) | (have H2_ := (Option.bind_some _ _).symm.trans H; with_reducible exact H2_) | with_reducible exact H | (rw [hy792]; exact H) | exact H
                                              have Ny792 := Aside0.mk hy792
                                              clear hy792
                                              have H' := Aside0.mk H
                                              clear H
                                              go_wp2_with (first | ((with_reducible refine gate_dst (N := 88) rfl ?_); (try (refine gate_guard (by rfl) ?_; dsimp only)); refine Kd.R_lit (Kd.int .u8) _ 5 ?hg (N := 88) ?hd (xs := ([] : List Int)) (inner := []) (ok := fun _ => True) (okp := fun _ => True) ?hr ?hp (fun _ hk => hk) trivial (Below.refl _ _) (Nat.le_refl _) (by simp) ?_; (case hd => rfl); (case hg => rfl); (case hr => first | (go_simp; done) | (go_simp; rfl)); (case hp => exact (Reps.none _ _)); intro v786 w35 ho36 hb hg_ hnew_; clear hg_ hnew_; (first | rw [← Ny785.out] at ho36 | (simp only [Int.reduceToNat] at ho36; rw [← Ny785.out] at ho36)); have n0_ := Aside0.mk (Kd.S_elder' (by (with_reducible repeat (first | apply Kd.S_alloc | apply Kd.S_drewN | apply Kd.S_drew)); exact HO_4.out) (Kd.R_base ho36) hb); have n1_ := Aside0.mk (Kd.R_elder' (by (with_reducible repeat (first | apply Kd.R_alloc | apply Kd.R_drewN | apply Kd.R_drew)); exact HO_69.out) (Kd.R_base ho36) hb); have n2_ := Aside0.mk (Kd.R_lower (Kd.R_new' ho36 (Kd.R_lt (by (with_reducible repeat (first | apply Kd.R_alloc | apply Kd.R_drewN | apply Kd.R_drew)); exact HO_69.out))) (below_size (by repeat (first | (with_reducible first | exact HB.out | apply below_alloc | apply pw_below_drewN | apply below_drew1) | exact HB.out)))); have n3_ := Aside0.mk (below_step (by repeat (first | (with_reducible first | exact HB.out | apply below_alloc | apply pw_below_drewN | apply below_drew1) | exact HB.out)) hb); clear HO_4; clear HO_69; clear HB; have HO_4 := n0_; have HO_69 := n1_; have HO787 := n2_; have HB := n3_; clear n0_ n1_ n2_ n3_; clear hb ho36; obtain ⟨i037, hi037, _, hsz37, _⟩ := info_parts info5; obtain ⟨A37, hcut37, hA37, hC37⟩ := print_mid_of (P := Try.prog) (Value.int .u8) 0 22 5 .i64 .i64 Try.underlying22 hi037 hsz37 (some ad773) (c0 - x5_1.toNat) (l0.drop (x5_1 : Int).toNat) 5 (ji17) (by omega) (by first | omega | exact of_decide_eq_true (by first | (with_reducible assumption) | assumption)) (of_decide_eq_true (by first | (with_reducible assumption) | assumption)) HC772.out; have HR788 := Aside0.mk (Kd.C_of_reads (h1 := fun _ => rfl) (hA37 _ (Kd.reads_of_C HR772.out))); have HC788 := Aside0.mk hC37; clear hA37 hC37 hi037 hsz37; (try (have hcuu37 := hcut37; rw [← drop_len l0 x5_1] at hcuu37))) | ((with_reducible refine gate_builtin (b := .append) (xs := #[.tmp 88, .tmp 92]) rfl ?_); (try (refine gate_guard (by rfl) ?_; dsimp only)); at_builtin; refine Kd.R_append_rows (Kd.int .u8) (w0 := w) w.heap.size rfl (.tmp 88) (.tmp 92) 22 5 (.int .u8 0) 1 rfl Try.underlying22 info5 rfl (by decide) (by omega) v786 y785 (((l0.drop (x5_1 : Int).toNat).take ((ji17) : Int).toNat).drop 5) _ _ _ (fun k_ => some k_ ≠ (.slice Ao23 t780.length co23 : Value).ownBlock) (fun _ => False) rfl rfl ?aO ?aR (fun _ _ h => h) (fun _ h => h.elim) ?aF ?aB ?aS ?aL ?_; (case aR => first | (refine rrow_len (show (((l0.drop (x5_1 : Int).toNat).take ((ji17) : Int).toNat).drop 5).length = ((ji17).toNat - 5) from (by rw [List.length_drop, List.length_take]; have h_ : ((ji17) : Int) ≤ ((l0.drop (x5_1 : Int).toNat).length : Int) := of_decide_eq_true (by first | (with_reducible assumption) | assumption); omega)) ?_; repeat (first | exact (Kd.C_below HR788.out HB.out) | (with_reducible refine Kd.C_alloc ?_ _) | (with_reducible refine Kd.C_drewN ?_ _) | (with_reducible refine Kd.C_drew ?_))) | (refine rrow_len (m := (((l0.drop (x5_1 : Int).toNat).take ((ji17) : Int).toNat).drop 5).length) (by simp only [List.length_drop, List.length_take]) ?_; repeat (first | exact (Kd.C_below HR788.out HB.out) | (with_reducible refine Kd.C_alloc ?_ _) | (with_reducible refine Kd.C_drewN ?_ _) | (with_reducible refine Kd.C_drew ?_))) | (repeat (first | exact (Kd.C_below HR788.out HB.out) | (with_reducible refine Kd.C_alloc ?_ _) | (with_reducible refine Kd.C_drewN ?_ _) | (with_reducible refine Kd.C_drew ?_)))); (case aB => exact (by repeat (first | (with_reducible first | exact HB.out | apply below_alloc | apply pw_below_drewN | apply below_drew1) | exact HB.out))); (case aF => exact (fun k_ hk => Kd.fresh' (Kd.R_lt (by (with_reducible repeat (first | apply Kd.R_alloc | apply Kd.R_drewN | apply Kd.R_drew)); exact HO_69.out)) k_ hk)); (case aO => exact (by (with_reducible repeat (first | apply Kd.R_alloc | apply Kd.R_drewN | apply Kd.R_drew)); exact Kd.R_mono HO787.out (fun _ hk => hk.2))); (case aS => exact (below_size (by repeat (first | (with_reducible first | exact HB.out | apply below_alloc | apply pw_below_drewN | apply below_drew1) | exact HB.out)))); (case aL => first | (have := LMc33.out; simp only [List.length_drop, List.length_take] at this ⊢; omega) | (have := LMc33.out; have hlx_ := (show (((l0.drop (x5_1 : Int).toNat).take ((ji17) : Int).toNat).drop 5).length = ((ji17).toNat - 5) from (by rw [List.length_drop, List.length_take]; have h_ : ((ji17) : Int) ≤ ((l0.drop (x5_1 : Int).toNat).length : Int) := of_decide_eq_true (by first | (with_reducible assumption) | assumption); omega)); omega)); intro v790 w38 ho hb hg hat; rw [← Ny789.out] at ho; have n0_ := Aside0.mk (Kd.S_after (ok := (fun k_ => some k_ ≠ (.slice Ao23 t780.length co23 : Value).ownBlock)) (by (with_reducible repeat (first | apply Kd.S_alloc | apply Kd.S_drewN | apply Kd.S_drew)); exact HO_4.out) hg hat); have n1_ := Aside0.mk (Kd.R_after (ok := (fun _ => True)) (by (with_reducible repeat (first | apply Kd.R_alloc | apply Kd.R_drewN | apply Kd.R_drew)); exact HO_69.out) hg hat); have n2_ := Aside0.mk (hb); have n3_ := Aside0.mk (ho); clear HO_4; clear HO_69; clear HB; clear HO787; have HO_4 := n0_; have HO_69 := n1_; have HB := n2_; have HO791 := n3_; clear n0_ n1_ n2_ n3_; clear ho hb hg hat; obtain ⟨Ao39, co39, eo39⟩ := Kd.R_slice HO791.out; subst eo39) | ((with_reducible refine gate_builtin (b := .append) (xs := #[.tmp 86, .tmp 95]) rfl ?_); (try (refine gate_guard (by rfl) ?_; dsimp only)); at_builtin; refine Kd.S_append k57 (w0 := w) w.heap.size rfl (.tmp 86) (.tmp 95) 60 57 (.agg #[(.int .i64 0), (.slice none 0 0)]) 32 rfl Try.underlying60 info57 rfl (by decide) (by omega) u4 x4_1 (⟨(wrap64 (rd (l0.drop (x5_1 : Int).toNat) 4)), y789⟩ : S57) [.int .i64 (wrap64 (rd (l0.drop (x5_1 : Int).toNat) 4)), .slice Ao39 y789.length co39] (fun k_ => some k_ ≠ (.slice Ao23 t780.length co23 : Value).ownBlock) (fun k_ => some k_ = (.slice Ao39 y789.length co39 : Value).ownBlock) rfl rfl ?aP (fun k_ hk_ => ((Kd.R_mono (ok' := fun k_ => ((fun k_ => some k_ ≠ (.slice Ao23 t780.length co23 : Value).ownBlock)) k_ ∧ some k_ ≠ (u4 : Value).ownBlock) (Kd.R_apart' (HO791.out) (Kd.S_typed HO_4.out) (by decide)) (fun k_ hk => ⟨hk.1, hk.2⟩))).1 k_ hk_.symm) ?aF ?aO ?aB ?aS ?aL ?_; (case aP => exact k57_mkM _ _ _ (⟨(wrap64 (rd (l0.drop (x5_1 : Int).toNat) 4)), y789⟩ : S57) (Kd.R_mono (Kd.R_tight rfl (Kd.R_mono (ok' := fun k_ => ((fun k_ => some k_ ≠ (.slice Ao23 t780.length co23 : Value).ownBlock)) k_ ∧ some k_ ≠ (u4 : Value).ownBlock) (Kd.R_apart' (HO791.out) (Kd.S_typed HO_4.out) (by decide)) (fun k_ hk => ⟨hk.1, hk.2⟩))) (fun _ h_ => h_))); (case aB => exact (by repeat (first | (with_reducible first | exact HB.out | apply below_alloc | apply pw_below_drewN | apply below_drew1) | exact HB.out))); (case aF => exact (fun k_ hk => Kd.fresh' (Kd.R_lt (by (with_reducible repeat (first | apply Kd.R_alloc | apply Kd.R_drewN | apply Kd.R_drew)); exact HO_69.out)) k_ hk)); (case aO => exact (by (with_reducible repeat (first | apply Kd.S_alloc | apply Kd.S_drewN | apply Kd.S_drew)); exact Kd.S_mono HO_4.out (fun k_ hk => ⟨hk.1, fun e_ => hk.2 e_⟩))); (case aS => exact (below_size (by repeat (first | (with_reducible first | exact HB.out | apply below_alloc | apply pw_below_drewN | apply below_drew1) | exact HB.out)))); (case aL => have := LMc34.out; omega); intro v793 w40 ho hb hg hat; rw [← Ny792.out] at ho; have n0_ := Aside0.mk (Kd.R_over' (by (with_reducible repeat (first | apply Kd.R_alloc | apply Kd.R_drewN | apply Kd.R_drew)); exact HO_69.out) (Kd.S_typed (by (with_reducible repeat (first | apply Kd.S_alloc | apply Kd.S_drewN | apply Kd.S_drew)); exact HO_4.out)) (by decide) hg); have n1_ := Aside0.mk (hb); have n2_ := Aside0.mk (ho); clear HO_69; clear HB; clear HO_4; clear HO791; have HO_69 := n0_; have HB := n1_; have HO794 := n2_; clear n0_ n1_ n2_; clear ho hb hg hat))
                                              repeat (go_quiet (first | ((with_reducible refine gate_dst (N := 88) rfl ?_); (try (refine gate_guard (by rfl) ?_; dsimp only)); refine Kd.R_lit (Kd.int .u8) _ 5 ?hg (N := 88) ?hd (xs := ([] : List Int)) (inner := []) (ok := fun _ => True) (okp := fun _ => True) ?hr ?hp (fun _ hk => hk) trivial (Below.refl _ _) (Nat.le_refl _) (by simp) ?_; (case hd => rfl); (case hg => rfl); (case hr => first | (go_simp; done) | (go_simp; rfl)); (case hp => exact (Reps.none _ _)); intro v786 w35 ho36 hb hg_ hnew_; clear hg_ hnew_; (first | rw [← Ny785.out] at ho36 | (simp only [Int.reduceToNat] at ho36; rw [← Ny785.out] at ho36)); have n0_ := Aside0.mk (Kd.S_elder' (by (with_reducible repeat (first | apply Kd.S_alloc | apply Kd.S_drewN | apply Kd.S_drew)); exact HO_4.out) (Kd.R_base ho36) hb); have n1_ := Aside0.mk (Kd.R_elder' (by (with_reducible repeat (first | apply Kd.R_alloc | apply Kd.R_drewN | apply Kd.R_drew)); exact HO_69.out) (Kd.R_base ho36) hb); have n2_ := Aside0.mk (Kd.R_lower (Kd.R_new' ho36 (Kd.R_lt (by (with_reducible repeat (first | apply Kd.R_alloc | apply Kd.R_drewN | apply Kd.R_drew)); exact HO_69.out))) (below_size (by repeat (first | (with_reducible first | exact HB.out | apply below_alloc | apply pw_below_drewN | apply below_drew1) | exact HB.out)))); have n3_ := Aside0.mk (below_step (by repeat (first | (with_reducible first | exact HB.out | apply below_alloc | apply pw_below_drewN | apply below_drew1) | exact HB.out)) hb); clear HO_4; clear HO_69; clear HB; have HO_4 := n0_; have HO_69 := n1_; have HO787 := n2_; have HB := n3_; clear n0_ n1_ n2_ n3_; clear hb ho36; obtain ⟨i037, hi037, _, hsz37, _⟩ := info_parts info5; obtain ⟨A37, hcut37, hA37, hC37⟩ := print_mid_of (P := Try.prog) (Value.int .u8) 0 22 5 .i64 .i64 Try.underlying22 hi037 hsz37 (some ad773) (c0 - x5_1.toNat) (l0.drop (x5_1 : Int).toNat) 5 (ji17) (by omega) (by first | omega | exact of_decide_eq_true (by first | (with_reducible assumption) | assumption)) (of_decide_eq_true (by first | (with_reducible assumption) | assumption)) HC772.out; have HR788 := Aside0.mk (Kd.C_of_reads (h1 := fun _ => rfl) (hA37 _ (Kd.reads_of_C HR772.out))); have HC788 := Aside0.mk hC37; clear hA37 hC37 hi037 hsz37; (try (have hcuu37 := hcut37; rw [← drop_len l0 x5_1] at hcuu37))) | ((with_reducible refine gate_builtin (b := .append) (xs := #[.tmp 88, .tmp 92]) rfl ?_); (try (refine gate_guard (by rfl) ?_; dsimp only)); at_builtin; refine Kd.R_append_rows (Kd.int .u8) (w0 := w) w.heap.size rfl (.tmp 88) (.tmp 92) 22 5 (.int .u8 0) 1 rfl Try.underlying22 info5 rfl (by decide) (by omega) v786 y785 (((l0.drop (x5_1 : Int).toNat).take ((ji17) : Int).toNat).drop 5) _ _ _ (fun k_ => some k_ ≠ (.slice Ao23 t780.length co23 : Value).ownBlock) (fun _ => False) rfl rfl ?aO ?aR (fun _ _ h => h) (fun _ h => h.elim) ?aF ?aB ?aS ?aL ?_; (case aR => first | (refine rrow_len (show (((l0.drop (x5_1 : Int).toNat).take ((ji17) : Int).toNat).drop 5).length = ((ji17).toNat - 5) from (by rw [List.length_drop, List.length_take]; have h_ : ((ji17) : Int) ≤ ((l0.drop (x5_1 : Int).toNat).length : Int) := of_decide_eq_true (by first | (with_reducible assumption) | assumption); omega)) ?_; repeat (first | exact (Kd.C_below HR788.out HB.out) | (with_reducible refine Kd.C_alloc ?_ _) | (with_reducible refine Kd.C_drewN ?_ _) | (with_reducible refine Kd.C_drew ?_))) | (refine rrow_len (m := (((l0.drop (x5_1 : Int).toNat).take ((ji17) : Int).toNat).drop 5).length) (by simp only [List.length_drop, List.length_take]) ?_; repeat (first | exact (Kd.C_below HR788.out HB.out) | (with_reducible refine Kd.C_alloc ?_ _) | (with_reducible refine Kd.C_drewN ?_ _) | (with_reducible refine Kd.C_drew ?_))) | (repeat (first | exact (Kd.C_below HR788.out HB.out) | (with_reducible refine Kd.C_alloc ?_ _) | (with_reducible refine Kd.C_drewN ?_ _) | (with_reducible refine Kd.C_drew ?_)))); (case aB => exact (by repeat (first | (with_reducible first | exact HB.out | apply below_alloc | apply pw_below_drewN | apply below_drew1) | exact HB.out))); (case aF => exact (fun k_ hk => Kd.fresh' (Kd.R_lt (by (with_reducible repeat (first | apply Kd.R_alloc | apply Kd.R_drewN | apply Kd.R_drew)); exact HO_69.out)) k_ hk)); (case aO => exact (by (with_reducible repeat (first | apply Kd.R_alloc | apply Kd.R_drewN | apply Kd.R_drew)); exact Kd.R_mono HO787.out (fun _ hk => hk.2))); (case aS => exact (below_size (by repeat (first | (with_reducible first | exact HB.out | apply below_alloc | apply pw_below_drewN | apply below_drew1) | exact HB.out)))); (case aL => first | (have := LMc33.out; simp only [List.length_drop, List.length_take] at this ⊢; omega) | (have := LMc33.out; have hlx_ := (show (((l0.drop (x5_1 : Int).toNat).take ((ji17) : Int).toNat).drop 5).length = ((ji17).toNat - 5) from (by rw [List.length_drop, List.length_take]; have h_ : ((ji17) : Int) ≤ ((l0.drop (x5_1 : Int).toNat).length : Int) := of_decide_eq_true (by first | (with_reducible assumption) | assumption); omega)); omega)); intro v790 w38 ho hb hg hat; rw [← Ny789.out] at ho; have n0_ := Aside0.mk (Kd.S_after (ok := (fun k_ => some k_ ≠ (.slice Ao23 t780.length co23 : Value).ownBlock)) (by (with_reducible repeat (first | apply Kd.S_alloc | apply Kd.S_drewN | apply Kd.S_drew)); exact HO_4.out) hg hat); have n1_ := Aside0.mk (Kd.R_after (ok := (fun _ => True)) (by (with_reducible repeat (first | apply Kd.R_alloc | apply Kd.R_drewN | apply Kd.R_drew)); exact HO_69.out) hg hat); have n2_ := Aside0.mk (hb); have n3_ := Aside0.mk (ho); clear HO_4; clear HO_69; clear HB; clear HO787; have HO_4 := n0_; have HO_69 := n1_; have HB := n2_; have HO791 := n3_; clear n0_ n1_ n2_ n3_; clear ho hb hg hat; obtain ⟨Ao39, co39, eo39⟩ := Kd.R_slice HO791.out; subst eo39) | ((with_reducible refine gate_builtin (b := .append) (xs := #[.tmp 86, .tmp 95]) rfl ?_); (try (refine gate_guard (by rfl) ?_; dsimp only)); at_builtin; refine Kd.S_append k57 (w0 := w) w.heap.size rfl (.tmp 86) (.tmp 95) 60 57 (.agg #[(.int .i64 0), (.slice none 0 0)]) 32 rfl Try.underlying60 info57 rfl (by decide) (by omega) u4 x4_1 (⟨(wrap64 (rd (l0.drop (x5_1 : Int).toNat) 4)), y789⟩ : S57) [.int .i64 (wrap64 (rd (l0.drop (x5_1 : Int).toNat) 4)), .slice Ao39 y789.length co39] (fun k_ => some k_ ≠ (.slice Ao23 t780.length co23 : Value).ownBlock) (fun k_ => some k_ = (.slice Ao39 y789.length co39 : Value).ownBlock) rfl rfl ?aP (fun k_ hk_ => ((Kd.R_mono (ok' := fun k_ => ((fun k_ => some k_ ≠ (.slice Ao23 t780.length co23 : Value).ownBlock)) k_ ∧ some k_ ≠ (u4 : Value).ownBlock) (Kd.R_apart' (HO791.out) (Kd.S_typed HO_4.out) (by decide)) (fun k_ hk => ⟨hk.1, hk.2⟩))).1 k_ hk_.symm) ?aF ?aO ?aB ?aS ?aL ?_; (case aP => exact k57_mkM _ _ _ (⟨(wrap64 (rd (l0.drop (x5_1 : Int).toNat) 4)), y789⟩ : S57) (Kd.R_mono (Kd.R_tight rfl (Kd.R_mono (ok' := fun k_ => ((fun k_ => some k_ ≠ (.slice Ao23 t780.length co23 : Value).ownBlock)) k_ ∧ some k_ ≠ (u4 : Value).ownBlock) (Kd.R_apart' (HO791.out) (Kd.S_typed HO_4.out) (by decide)) (fun k_ hk => ⟨hk.1, hk.2⟩))) (fun _ h_ => h_))); (case aB => exact (by repeat (first | (with_reducible first | exact HB.out | apply below_alloc | apply pw_below_drewN | apply below_drew1) | exact HB.out))); (case aF => exact (fun k_ hk => Kd.fresh' (Kd.R_lt (by (with_reducible repeat (first | apply Kd.R_alloc | apply Kd.R_drewN | apply Kd.R_drew)); exact HO_69.out)) k_ hk)); (case aO => exact (by (with_reducible repeat (first | apply Kd.S_alloc | apply Kd.S_drewN | apply Kd.S_drew)); exact Kd.S_mono HO_4.out (fun k_ hk => ⟨hk.1, fun e_ => hk.2 e_⟩))); (case aS => exact (below_size (by repeat (first | (with_reducible first | exact HB.out | apply below_alloc | apply pw_below_drewN | apply below_drew1) | exact HB.out)))); (case aL => have := LMc34.out; omega); intro v793 w40 ho hb hg hat; rw [← Ny792.out] at ho; have n0_ := Aside0.mk (Kd.R_over' (by (with_reducible repeat (first | apply Kd.R_alloc | apply Kd.R_drewN | apply Kd.R_drew)); exact HO_69.out) (Kd.S_typed (by (with_reducible repeat (first | apply Kd.S_alloc | apply Kd.S_drewN | apply Kd.S_drew)); exact HO_4.out)) (by decide) hg); have n1_ := Aside0.mk (hb); have n2_ := Aside0.mk (ho); clear HO_69; clear HB; clear HO_4; clear HO791; have HO_69 := n0_; have HB := n1_; have HO794 := n2_; clear n0_ n1_ n2_; clear ho hb hg hat)); try go_wp2_with (first | ((with_reducible refine gate_dst (N := 88) rfl ?_); (try (refine gate_guard (by rfl) ?_; dsimp only)); refine Kd.R_lit (Kd.int .u8) _ 5 ?hg (N := 88) ?hd (xs := ([] : List Int)) (inner := []) (ok := fun _ => True) (okp := fun _ => True) ?hr ?hp (fun _ hk => hk) trivial (Below.refl _ _) (Nat.le_refl _) (by simp) ?_; (case hd => rfl); (case hg => rfl); (case hr => first | (go_simp; done) | (go_simp; rfl)); (case hp => exact (Reps.none _ _)); intro v786 w35 ho36 hb hg_ hnew_; clear hg_ hnew_; (first | rw [← Ny785.out] at ho36 | (simp only [Int.reduceToNat] at ho36; rw [← Ny785.out] at ho36)); have n0_ := Aside0.mk (Kd.S_elder' (by (with_reducible repeat (first | apply Kd.S_alloc | apply Kd.S_drewN | apply Kd.S_drew)); exact HO_4.out) (Kd.R_base ho36) hb); have n1_ := Aside0.mk (Kd.R_elder' (by (with_reducible repeat (first | apply Kd.R_alloc | apply Kd.R_drewN | apply Kd.R_drew)); exact HO_69.out) (Kd.R_base ho36) hb); have n2_ := Aside0.mk (Kd.R_lower (Kd.R_new' ho36 (Kd.R_lt (by (with_reducible repeat (first | apply Kd.R_alloc | apply Kd.R_drewN | apply Kd.R_drew)); exact HO_69.out))) (below_size (by repeat (first | (with_reducible first | exact HB.out | apply below_alloc | apply pw_below_drewN | apply below_drew1) | exact HB.out)))); have n3_ := Aside0.mk (below_step (by repeat (first | (with_reducible first | exact HB.out | apply below_alloc | apply pw_below_drewN | apply below_drew1) | exact HB.out)) hb); clear HO_4; clear HO_69; clear HB; have HO_4 := n0_; have HO_69 := n1_; have HO787 := n2_; have HB := n3_; clear n0_ n1_ n2_ n3_; clear hb ho36; obtain ⟨i037, hi037, _, hsz37, _⟩ := info_parts info5; obtain ⟨A37, hcut37, hA37, hC37⟩ := print_mid_of (P := Try.prog) (Value.int .u8) 0 22 5 .i64 .i64 Try.underlying22 hi037 hsz37 (some ad773) (c0 - x5_1.toNat) (l0.drop (x5_1 : Int).toNat) 5 (ji17) (by omega) (by first | omega | exact of_decide_eq_true (by first | (with_reducible assumption) | assumption)) (of_decide_eq_true (by first | (with_reducible assumption) | assumption)) HC772.out; have HR788 := Aside0.mk (Kd.C_of_reads (h1 := fun _ => rfl) (hA37 _ (Kd.reads_of_C HR772.out))); have HC788 := Aside0.mk hC37; clear hA37 hC37 hi037 hsz37; (try (have hcuu37 := hcut37; rw [← drop_len l0 x5_1] at hcuu37))) | ((with_reducible refine gate_builtin (b := .append) (xs := #[.tmp 88, .tmp 92]) rfl ?_); (try (refine gate_guard (by rfl) ?_; dsimp only)); at_builtin; refine Kd.R_append_rows (Kd.int .u8) (w0 := w) w.heap.size rfl (.tmp 88) (.tmp 92) 22 5 (.int .u8 0) 1 rfl Try.underlying22 info5 rfl (by decide) (by omega) v786 y785 (((l0.drop (x5_1 : Int).toNat).take ((ji17) : Int).toNat).drop 5) _ _ _ (fun k_ => some k_ ≠ (.slice Ao23 t780.length co23 : Value).ownBlock) (fun _ => False) rfl rfl ?aO ?aR (fun _ _ h => h) (fun _ h => h.elim) ?aF ?aB ?aS ?aL ?_; (case aR => first | (refine rrow_len (show (((l0.drop (x5_1 : Int).toNat).take ((ji17) : Int).toNat).drop 5).length = ((ji17).toNat - 5) from (by rw [List.length_drop, List.length_take]; have h_ : ((ji17) : Int) ≤ ((l0.drop (x5_1 : Int).toNat).length : Int) := of_decide_eq_true (by first | (with_reducible assumption) | assumption); omega)) ?_; repeat (first | exact (Kd.C_below HR788.out HB.out) | (with_reducible refine Kd.C_alloc ?_ _) | (with_reducible refine Kd.C_drewN ?_ _) | (with_reducible refine Kd.C_drew ?_))) | (refine rrow_len (m := (((l0.drop (x5_1 : Int).toNat).take ((ji17) : Int).toNat).drop 5).length) (by simp only [List.length_drop, List.length_take]) ?_; repeat (first | exact (Kd.C_below HR788.out HB.out) | (with_reducible refine Kd.C_alloc ?_ _) | (with_reducible refine Kd.C_drewN ?_ _) | (with_reducible refine Kd.C_drew ?_))) | (repeat (first | exact (Kd.C_below HR788.out HB.out) | (with_reducible refine Kd.C_alloc ?_ _) | (with_reducible refine Kd.C_drewN ?_ _) | (with_reducible refine Kd.C_drew ?_)))); (case aB => exact (by repeat (first | (with_reducible first | exact HB.out | apply below_alloc | apply pw_below_drewN | apply below_drew1) | exact HB.out))); (case aF => exact (fun k_ hk => Kd.fresh' (Kd.R_lt (by (with_reducible repeat (first | apply Kd.R_alloc | apply Kd.R_drewN | apply Kd.R_drew)); exact HO_69.out)) k_ hk)); (case aO => exact (by (with_reducible repeat (first | apply Kd.R_alloc | apply Kd.R_drewN | apply Kd.R_drew)); exact Kd.R_mono HO787.out (fun _ hk => hk.2))); (case aS => exact (below_size (by repeat (first | (with_reducible first | exact HB.out | apply below_alloc | apply pw_below_drewN | apply below_drew1) | exact HB.out)))); (case aL => first | (have := LMc33.out; simp only [List.length_drop, List.length_take] at this ⊢; omega) | (have := LMc33.out; have hlx_ := (show (((l0.drop (x5_1 : Int).toNat).take ((ji17) : Int).toNat).drop 5).length = ((ji17).toNat - 5) from (by rw [List.length_drop, List.length_take]; have h_ : ((ji17) : Int) ≤ ((l0.drop (x5_1 : Int).toNat).length : Int) := of_decide_eq_true (by first | (with_reducible assumption) | assumption); omega)); omega)); intro v790 w38 ho hb hg hat; rw [← Ny789.out] at ho; have n0_ := Aside0.mk (Kd.S_after (ok := (fun k_ => some k_ ≠ (.slice Ao23 t780.length co23 : Value).ownBlock)) (by (with_reducible repeat (first | apply Kd.S_alloc | apply Kd.S_drewN | apply Kd.S_drew)); exact HO_4.out) hg hat); have n1_ := Aside0.mk (Kd.R_after (ok := (fun _ => True)) (by (with_reducible repeat (first | apply Kd.R_alloc | apply Kd.R_drewN | apply Kd.R_drew)); exact HO_69.out) hg hat); have n2_ := Aside0.mk (hb); have n3_ := Aside0.mk (ho); clear HO_4; clear HO_69; clear HB; clear HO787; have HO_4 := n0_; have HO_69 := n1_; have HB := n2_; have HO791 := n3_; clear n0_ n1_ n2_ n3_; clear ho hb hg hat; obtain ⟨Ao39, co39, eo39⟩ := Kd.R_slice HO791.out; subst eo39) | ((with_reducible refine gate_builtin (b := .append) (xs := #[.tmp 86, .tmp 95]) rfl ?_); (try (refine gate_guard (by rfl) ?_; dsimp only)); at_builtin; refine Kd.S_append k57 (w0 := w) w.heap.size rfl (.tmp 86) (.tmp 95) 60 57 (.agg #[(.int .i64 0), (.slice none 0 0)]) 32 rfl Try.underlying60 info57 rfl (by decide) (by omega) u4 x4_1 (⟨(wrap64 (rd (l0.drop (x5_1 : Int).toNat) 4)), y789⟩ : S57) [.int .i64 (wrap64 (rd (l0.drop (x5_1 : Int).toNat) 4)), .slice Ao39 y789.length co39] (fun k_ => some k_ ≠ (.slice Ao23 t780.length co23 : Value).ownBlock) (fun k_ => some k_ = (.slice Ao39 y789.length co39 : Value).ownBlock) rfl rfl ?aP (fun k_ hk_ => ((Kd.R_mono (ok' := fun k_ => ((fun k_ => some k_ ≠ (.slice Ao23 t780.length co23 : Value).ownBlock)) k_ ∧ some k_ ≠ (u4 : Value).ownBlock) (Kd.R_apart' (HO791.out) (Kd.S_typed HO_4.out) (by decide)) (fun k_ hk => ⟨hk.1, hk.2⟩))).1 k_ hk_.symm) ?aF ?aO ?aB ?aS ?aL ?_; (case aP => exact k57_mkM _ _ _ (⟨(wrap64 (rd (l0.drop (x5_1 : Int).toNat) 4)), y789⟩ : S57) (Kd.R_mono (Kd.R_tight rfl (Kd.R_mono (ok' := fun k_ => ((fun k_ => some k_ ≠ (.slice Ao23 t780.length co23 : Value).ownBlock)) k_ ∧ some k_ ≠ (u4 : Value).ownBlock) (Kd.R_apart' (HO791.out) (Kd.S_typed HO_4.out) (by decide)) (fun k_ hk => ⟨hk.1, hk.2⟩))) (fun _ h_ => h_))); (case aB => exact (by repeat (first | (with_reducible first | exact HB.out | apply below_alloc | apply pw_below_drewN | apply below_drew1) | exact HB.out))); (case aF => exact (fun k_ hk => Kd.fresh' (Kd.R_lt (by (with_reducible repeat (first | apply Kd.R_alloc | apply Kd.R_drewN | apply Kd.R_drew)); exact HO_69.out)) k_ hk)); (case aO => exact (by (with_reducible repeat (first | apply Kd.S_alloc | apply Kd.S_drewN | apply Kd.S_drew)); exact Kd.S_mono HO_4.out (fun k_ hk => ⟨hk.1, fun e_ => hk.2 e_⟩))); (case aS => exact (below_size (by repeat (first | (with_reducible first | exact HB.out | apply below_alloc | apply pw_below_drewN | apply below_drew1) | exact HB.out)))); (case aL => have := LMc34.out; omega); intro v793 w40 ho hb hg hat; rw [← Ny792.out] at ho; have n0_ := Aside0.mk (Kd.R_over' (by (with_reducible repeat (first | apply Kd.R_alloc | apply Kd.R_drewN | apply Kd.R_drew)); exact HO_69.out) (Kd.S_typed (by (with_reducible repeat (first | apply Kd.S_alloc | apply Kd.S_drewN | apply Kd.S_drew)); exact HO_4.out)) (by decide) hg); have n1_ := Aside0.mk (hb); have n2_ := Aside0.mk (ho); clear HO_69; clear HB; clear HO_4; clear HO791; have HO_69 := n0_; have HB := n1_; have HO794 := n2_; clear n0_ n1_ n2_; clear ho hb hg hat)))
                                              go_roundg k3
                                              case measure => have := HK1.out; have := HJ9.out; have := HK3.out; omega
                                              case rel => exact ⟨(y792), (wrap64 (x5_1 + (wrap64 ((ji17) + 4)))), (by first | rfl | (simp; done) | (simp only [← hji17] <;> (first | rfl | simp)) | (simp [*]; done)), H', ⟨by have := HK1.out; have := HJ9.out; have := HK3.out; omega⟩, ⟨by (with_reducible repeat (first | apply Kd.S_alloc | apply Kd.S_drewN | apply Kd.S_drew)); exact Kd.S_mono HO794.out (fun _ hk => trivial)⟩, ⟨by repeat (first | (with_reducible first | exact HB.out | apply below_alloc | apply pw_below_drewN | apply below_drew1) | exact HB.out)⟩⟩
                                            · rw [if_neg c34] at H
                                              exact absurd H (by simp)
                                          · rw [if_neg c33] at H
                                            exact absurd H (by simp)
                                        · rw [if_neg c32] at H
                                          exact absurd H (by simp)
                                      · rw [if_neg c31] at H
                                        exact absurd H (by simp)
                              · rw [if_neg c19] at H
                                exact absurd H (by simp)
                            · rw [if_neg c18] at H
                              exact absurd H (by simp)
                    · rw [if_neg c9] at H
                      exact absurd H (by simp)
                  · rw [if_neg c8] at H
                    exact absurd H (by simp)
                · rw [if_neg c7] at H
                  exact absurd H (by simp)
              · rw [if_neg c6] at H
                exact absurd H (by simp)
            · rw [if_neg c5] at H
              exact absurd H (by simp)
          · rw [if_neg c4] at H
            exact absurd H (by simp)
        · rw [if_neg c3] at H
          exact absurd H (by simp)
      · rw [if_neg c2] at H
        have c2b0 : decide (9 ≤ (wrap64 ((l0.length : Int) - x5_1))) = false := decide_eq_false c2
        clear c2
        simp only [Option.some.injEq, Prod.mk.injEq] at H
        obtain ⟨rfl, rfl⟩ := H
        go_wp2
        repeat (go_quiet (fail); try go_wp2)
        (try rw [Exit.noGoto_ret])
        go_ret2
        exact ⟨_, by first | rfl | (simp [errW_none, errW_some] <;> rfl) | (simp [*, errW_none, errW_some] <;> rfl), by (with_reducible repeat (first | apply Kd.S_alloc | apply Kd.S_drewN | apply Kd.S_drew)); exact HO_4.out, by repeat (first | (with_reducible first | exact HB.out | apply below_alloc | apply pw_below_drewN | apply below_drew1) | exact HB.out)⟩

end Go.Proofs.Ytfljnggpnndmkaa.Z
