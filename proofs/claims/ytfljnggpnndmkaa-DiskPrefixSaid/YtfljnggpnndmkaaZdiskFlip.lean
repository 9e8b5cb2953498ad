/- Written by a program of this session: each Go function as a plain Lean function, and that the machine's call does what it says. Conditions: none but those each theorem states. -/
import Derived.Test.YtfljnggpnndmkaaZ0
import Derived.Test.YtfljnggpnndmkaaZslicesClonebytebyte
namespace Go.Proofs.Ytfljnggpnndmkaa.Z
open Go.RowKit Go.Proofs.YtfljnggpnndmkaaW.PrintWords Go.Proofs.YtfljnggpnndmkaaW.PrintLast Go.Proofs.YtfljnggpnndmkaaW.PrintMore
attribute [local go_sem] max2_int min2_int max_two min_two max_three min_three max_four min_four   -- for this text's walks alone
set_option linter.unusedVariables false
set_option linter.unusedSimpArgs false

/-! ### disk_Flip: function 26 -/
def disk_Flip.f (l0_0 : List Int) (l0_1 : List Int) (a1 : Int) : Option (List Int × List Int) := (slices_Clone_byte_byte.f l0_0).bind fun t26003 => ((slices_Clone_byte_byte.f l0_1).bind fun t26006 => (if a1 ≥ 0 then (if (wrap64 (Int.tdiv a1 8)) < (t26003.length : Int) then (if 0 ≤ (wrap64 (Int.tdiv a1 8)) then (if 0 ≤ (Int.tmod a1 8) then (some ((t26003.set ((wrap64 (Int.tdiv a1 8)) : Int).toNat (Go.bits .xor .u8 (rd t26003 (wrap64 (Int.tdiv a1 8))) (shl .u8 1 (Int.tmod a1 8)))), t26006)) else (none)) else (none)) else (some (t26003, t26006))) else (some (t26003, t26006))))
def disk_Flip.T1 : Bool × List (List Nat × List Nat) := (true, [([], []), ([0], [0]), ([1], [1]), ([], []), ([3], [3]), ([4, 2], [4]), ([2, 5], [2, 5]), ([], []), ([7, 6, 5, 0, 1, 2, 3, 4, 5, 6, 7], [6, 7])])
def disk_Flip.B1 : List Nat := [0, 1, 3, 0, 8, 31, 63, 0, 255]
theorem disk_Flip.tab1 : rtab .any (opsOf Try.f26 1) = disk_Flip.T1 := by kernel_rfl
theorem disk_Flip.bits1 : waitsOk disk_Flip.T1.2 disk_Flip.B1 = true := by kernel_rfl
def disk_Flip.T3 : Bool × List (List Nat × List Nat) := (true, [([], []), ([0], [0]), ([], []), ([2], [2]), ([1, 3], [1, 3]), ([4], [4]), ([], []), ([6], [6]), ([7], [7]), ([5, 8], [5, 8]), ([1, 3, 0, 1, 2, 3, 4, 5, 6, 7, 8, 9], [1, 3]), ([10, 9, 0, 1, 2, 3, 4, 5, 6, 7, 8, 9], [9, 10])])
def disk_Flip.B3 : List Nat := [0, 1, 0, 4, 15, 31, 0, 64, 192, 511, 1023, 2047]
theorem disk_Flip.tab3 : rtab .any (opsOf Try.f26 3) = disk_Flip.T3 := by kernel_rfl
theorem disk_Flip.bits3 : waitsOk disk_Flip.T3.2 disk_Flip.B3 = true := by kernel_rfl
set_option maxHeartbeats 8000000 in
set_option maxRecDepth 100000 in
theorem disk_Flip.calls (A0_0 : Option Addr) (c0_0 : Nat) (l0_0 : List Int) (A0_1 : Option Addr) (c0_1 : Nat) (l0_1 : List Int) (a1 : Int) (r1 : List Int) (r2 : List Int) (w : World) (hr0_0 : Kd.C (Kd.int .u8) w A0_0 l0_0.length l0_0) (hc0_0 : l0_0.length ≤ c0_0) (hr0_1 : Kd.C (Kd.int .u8) w A0_1 l0_1.length l0_1) (hc0_1 : l0_1.length ≤ c0_1) (h : disk_Flip.f l0_0 l0_1 a1 = some (r1, r2)) :
    Calls Try.prog 26 #[.agg #[.slice A0_0 l0_0.length c0_0, .slice A0_1 l0_1.length c0_1], .int .i64 a1] w fun e w' => ∃ v0_ v1_ : Value, e = .returned (.agg #[v0_, v1_]) ∧ Kd.R (Kd.int .u8) 5 w' w.heap.size (fun k_ => some k_ ≠ (v1_ : Value).ownBlock) v0_ r1 ∧ Kd.R (Kd.int .u8) 5 w' w.heap.size (fun k_ => some k_ ≠ (v0_ : Value).ownBlock) v1_ r2 ∧ Below w.heap.size w w' := by
  have hu24 := Try.underlying24
  have HR0_0 := Aside0.mk hr0_0
  have HC0_0 := Aside0.mk hc0_0
  clear hr0_0 hc0_0
  have HR0_1 := Aside0.mk hr0_1
  have HC0_1 := Aside0.mk hc0_1
  clear hr0_1 hc0_1
  have HB := Aside0.mk (Below.refl w.heap.size w)
  have H : ((slices_Clone_byte_byte.f l0_0).bind fun t26003 => ((slices_Clone_byte_byte.f l0_1).bind fun t26006 => (if a1 ≥ 0 then (if (wrap64 (Int.tdiv a1 8)) < (t26003.length : Int) then (if 0 ≤ (wrap64 (Int.tdiv a1 8)) then (if 0 ≤ (Int.tmod a1 8) then (some ((t26003.set ((wrap64 (Int.tdiv a1 8)) : Int).toNat (Go.bits .xor .u8 (rd t26003 (wrap64 (Int.tdiv a1 8))) (shl .u8 1 (Int.tmod a1 8)))), t26006)) else (none)) else (none)) else (some (t26003, t26006))) else (some (t26003, t26006))))) = some (r1, r2) := h
  clear h
  replace H := Option.bind_eq_some_iff.mp H
  obtain ⟨t26003, A30, H⟩ := H
  replace H : ((slices_Clone_byte_byte.f l0_1).bind fun t26006 => (if a1 ≥ 0 then (if (wrap64 (Int.tdiv a1 8)) < (t26003.length : Int) then (if 0 ≤ (wrap64 (Int.tdiv a1 8)) then (if 0 ≤ (Int.tmod a1 8) then (some ((t26003.set ((wrap64 (Int.tdiv a1 8)) : Int).toNat (Go.bits .xor .u8 (rd t26003 (wrap64 (Int.tdiv a1 8))) (shl .u8 1 (Int.tmod a1 8)))), t26006)) else (none)) else (none)) else (some (t26003, t26006))) else (some (t26003, t26006)))) = some (r1, r2) := H
  have A3 := Aside0.mk A30
  clear A30
  replace H := Option.bind_eq_some_iff.mp H
  obtain ⟨t26006, A40, H⟩ := H
  replace H : (if a1 ≥ 0 then (if (wrap64 (Int.tdiv a1 8)) < (t26003.length : Int) then (if 0 ≤ (wrap64 (Int.tdiv a1 8)) then (if 0 ≤ (Int.tmod a1 8) then (some ((t26003.set ((wrap64 (Int.tdiv a1 8)) : Int).toNat (Go.bits .xor .u8 (rd t26003 (wrap64 (Int.tdiv a1 8))) (shl .u8 1 (Int.tmod a1 8)))), t26006)) else (none)) else (none)) else (some (t26003, t26006))) else (some (t26003, t26006))) = some (r1, r2) := H
  have A4 := Aside0.mk A40
  clear A40
  by_cases c5 : a1 ≥ 0
  · rw [if_pos c5] at H
    have c5b0 : decide (0 ≤ a1) = true := decide_eq_true c5
    clear c5
    by_cases c6 : (wrap64 (Int.tdiv a1 8)) < (t26003.length : Int)
    · rw [if_pos c6] at H
      have c6b0 : decide ((wrap64 (Int.tdiv a1 8)) < (t26003.length : Int)) = true := decide_eq_true c6
      clear c6
      obtain ⟨ji7, hji7⟩ : ∃ j_ : Int, (wrap64 (Int.tdiv a1 8)) = j_ := ⟨_, rfl⟩
      replace H : (if 0 ≤ (ji7) then (if 0 ≤ (Int.tmod a1 8) then (some ((t26003.set ((ji7) : Int).toNat (Go.bits .xor .u8 (rd t26003 (ji7)) (shl .u8 1 (Int.tmod a1 8)))), t26006)) else (none)) else (none)) = some (r1, r2) := by first | (rw [hji7] at H; exact H) | (simp only [hji7] at H ⊢; exact H)
      (try rw [hji7] at c6b0)
      (try rw [hji7] at A3)
      (try rw [hji7] at A4)
      have hji7w : (IntKind.i64.wrap (Int.tdiv a1 8)) = ji7 := (i64_w _).trans hji7
      replace H := if_some H; obtain ⟨c8, H⟩ := H
      have c8b0 : decide (0 ≤ (ji7)) = true := decide_eq_true c8
      clear c8
      obtain ⟨ji9, hji9⟩ : ∃ j_ : Int, (Int.tmod a1 8) = j_ := ⟨_, rfl⟩
      replace H : (if 0 ≤ (ji9) then (some ((t26003.set ((ji7) : Int).toNat (Go.bits .xor .u8 (rd t26003 (ji7)) (shl .u8 1 (ji9)))), t26006)) else (none)) = some (r1, r2) := by first | (rw [hji9] at H; exact H) | (simp only [hji9] at H ⊢; exact H)
      (try rw [hji9] at A3)
      (try rw [hji9] at A4)
      replace H := if_some H; obtain ⟨c10, H⟩ := H
      have c10b0 := eq_true c10
      have c10b1 : decide (0 ≤ (ji9)) = true := decide_eq_true c10
      clear c10
      obtain ⟨ji11, hji11⟩ : ∃ j_ : Int, (shl .u8 1 (ji9)) = j_ := ⟨_, rfl⟩
      replace H : (some ((t26003.set ((ji7) : Int).toNat (Go.bits .xor .u8 (rd t26003 (ji7)) (ji11))), t26006)) = some (r1, r2) := by first | (rw [hji11] at H; exact H) | (simp only [hji11] at H ⊢; exact H)
      (try rw [hji11] at A3)
      (try rw [hji11] at A4)
      have hji11_ : (IntKind.u8.wrap (1 * 2 ^ min (ji9).toNat 8)) = ji11 := hji11
      have hji11z : (ji9) ≤ 8 → (IntKind.u8.wrap (1 * 2 ^ (ji9).toNat)) = ji11 := shl_small hji11
      have hji11u : (IntKind.u8.wrap (2 ^ min (ji9).toNat 8)) = ji11 := by have h_ := hji11_; rw [Int.one_mul] at h_; exact h_
      have hji11v : (ji9) ≤ 8 → (IntKind.u8.wrap (2 ^ (ji9).toNat)) = ji11 := fun hle_ => by have h_ := hji11z hle_; rw [Int.one_mul] at h_; exact h_
      obtain ⟨y26011, hy26011⟩ : ∃ y_ : List Int, y_ = (t26003.set ((ji7) : Int).toNat (Go.bits .xor .u8 (rd t26003 (ji7)) (ji11))) := ⟨_, rfl⟩
      replace H : (some (y26011, t26006)) = some (r1, r2) := by first | (rw [hy26011]; with_reducible exact H) | (have H2_ := (Option.bind_some _ _).symm.trans H; rw [hy26011]; with_reducible exact H2_) | (have H2_ := (Option.bind_some _ _).symm.trans H; with_reducible exact H2_) | with_reducible exact H | (rw [hy26011]; exact H) | exact H
      have Ny26011 := Aside0.mk hy26011
      clear hy26011
      simp only [Option.some.injEq, Prod.mk.injEq] at H
      obtain ⟨rfl, rfl⟩ := H
      go_enter Try.func26, Try.ntmps26
      try go_wp2_with (first | ((with_reducible refine gate_dst (N := 2) rfl ?_); (try (refine gate_guard (by rfl) ?_; dsimp only)); refine box_event ?hg (N := 2) ?hd (cs := #[.slice A0_0 l0_0.length c0_0, .slice A0_1 l0_1.length c0_1]) (t := 24) ?hr ?_; (case hd => rfl); (case hg => rfl); (case hr => first | (go_simp; done) | (go_simp; rfl)); intro gb26001 hg w13 hbox hb; have n1_ := Aside0.mk (hbox); have n2_ := Aside0.mk ((by rw [hg]; exact (below_size (below_ext HB.out)) : w.heap.size ≤ gb26001)); have n3_ := Aside0.mk ((by rw [hg]; exact (below_size (below_ext HB.out)) : w.heap.size ≤ gb26001)); have BK26001 := n1_; have GW26001 := n2_; have GE26001 := n3_; have GI26001 := GE_.mk GE26001.out; replace HB := mvH HB hb; clear n1_ n2_ n3_; clear hb hbox hg) | ((with_reducible refine gate_dst (N := 4) rfl ?_); (try (refine gate_guard (by rfl) ?_; dsimp only)); refine box_event ?hg (N := 4) ?hd (cs := #[.slice none 0 0, .slice none 0 0]) (t := 24) ?hr ?_; (case hd => rfl); (case hg => rfl); (case hr => first | (go_simp; done) | (go_simp; rfl)); intro gb26002 hg w14 hbox hb; have n2_ := Aside0.mk (hbox); have n3_ := Aside0.mk ((by rw [hg]; exact (below_size (below_extB HB.out)) : w.heap.size ≤ gb26002)); have n4_ := Aside0.mk ((by rw [hg]; exact (below_size (below_extB HB.out)) : w.heap.size ≤ gb26002)); have n5_ := Aside0.mk ((by rw [hg]; exact Nat.ne_of_lt (blk_lt (blk_ext BK26001.out)) : gb26001 ≠ gb26002)); have n6_ := Aside0.mk ((by rw [hg]; exact Nat.ne_of_gt (blk_lt (blk_ext BK26001.out)) : gb26002 ≠ gb26001)); have BK26002 := n2_; have GW26002 := n3_; have GE26002 := n4_; have GI26002 := GE_.mk GE26002.out; have NB26001_26002 := n5_; have NI26001_26002 := NE_.mk NB26001_26002.out; have NB26002_26001 := n6_; have NI26002_26001 := NE_.mk NB26002_26001.out; replace BK26001 := mvB BK26001 hb; replace HB := mvH HB hb; clear n2_ n3_ n4_ n5_ n6_; clear hb hbox hg))
      have n0_ := Aside0.mk (blk_drew BK26001.out)
      have n1_ := Aside0.mk (blk_drew BK26002.out)
      have n2_ := Aside0.mk (below_drew1 HB.out)
      clear BK26001
      clear BK26002
      clear HB
      have BK26001 := n0_
      have BK26002 := n1_
      have HB := n2_
      clear n0_ n1_ n2_
      refine start_ (n := 9) (S := fun w' => w'.cell? ⟨gb26001, 0, none⟩ = some (.slice A0_0 l0_0.length c0_0) ∧ w'.cell? ⟨gb26001, 1, none⟩ = some (.slice A0_1 l0_1.length c0_1)) (ds := []) #[false, false, false, false, false, false, false, false, false] (by kernel_rfl) rfl rfl ⟨(blk_cell BK26001.out 0).trans rfl, (blk_cell BK26001.out 1).trans rfl⟩ (fun hHeld => ?_); refine with_tabW disk_Flip.tab1 disk_Flip.bits1 (fun HT_ HW_ => ?_)
      generalize w14.drew = w15 at BK26001 BK26002 HB hHeld ⊢
      refine pure_ (i := 0) (N := some 6) (v := ?_) (a' := ?_) #[true, false, false, false, false, false, false, false, false] rfl rfl (any_of HT_.out (by kernel_rfl)) (fun _ _ _ h => h) (Or.inl ⟨by rfl, ?_⟩) ?_ ?_
      rotate_left
      · intro w'
        go_simp
        with_reducible rfl
      rotate_left
      · simp only [Act.put, List.setIfInBounds_toArray, List.set_cons_zero, List.set_cons_succ, i64_w, i32_w]
        rfl
      refine pure_ (i := 3) (N := some 9) (v := ?_) (a' := ?_) #[true, false, false, true, false, false, false, false, false] rfl rfl (any_of HT_.out (by kernel_rfl)) (fun _ _ _ h => h) (Or.inl ⟨by rfl, ?_⟩) ?_ ?_
      rotate_left
      · intro w'
        go_simp
        with_reducible rfl
      rotate_left
      · simp only [Act.put, List.setIfInBounds_toArray, List.set_cons_zero, List.set_cons_succ, i64_w, i32_w]
        rfl
      refine take_ (i := 1) (N := some 7) (v := ?_) (a' := ?_) #[true, true, false, true, false, false, false, false, false] rfl rfl (take_ofW HT_.out HW_.out (by kernel_rfl)) (fun _ _ _ h => h) (Or.inl ⟨by rfl, ?_⟩) hHeld ?_ ?_
      rotate_left
      · rintro w' ⟨s0, s1⟩
        go_simp
        with_reducible rfl
      rotate_left
      · simp only [Act.put, List.setIfInBounds_toArray, List.set_cons_zero, List.set_cons_succ, i64_w, i32_w]
        rfl
      refine take_ (i := 4) (N := some 10) (v := ?_) (a' := ?_) #[true, true, false, true, true, false, false, false, false] rfl rfl (take_ofW HT_.out HW_.out (by kernel_rfl)) (fun _ _ _ h => h) (Or.inl ⟨by rfl, ?_⟩) hHeld ?_ ?_
      rotate_left
      · rintro w' ⟨s0, s1⟩
        go_simp
        with_reducible rfl
      rotate_left
      · simp only [Act.put, List.setIfInBounds_toArray, List.set_cons_zero, List.set_cons_succ, i64_w, i32_w]
        rfl
      refine join_ (σ := Value × Value × Nat) 1 #[true, true, true, true, true, true, true, true, false] (fun s_ => [(8, s_.1), (11, s_.2.1), (5, .pointer (some ⟨s_.2.2, 0, none⟩)), (12, .agg #[s_.1, s_.2.1])]) (fun s_ w' => (w'.cell? ⟨gb26001, 0, none⟩ = some (.slice A0_0 l0_0.length c0_0) ∧ w'.cell? ⟨gb26001, 1, none⟩ = some (.slice A0_1 l0_1.length c0_1)) ∧ (Kd.R (Kd.int .u8) 5 w' w.heap.size (fun k_ => some k_ ≠ (s_.2.1 : Value).ownBlock) s_.1 t26003) ∧ (Kd.R (Kd.int .u8) 5 w' w.heap.size (fun k_ => some k_ ≠ (s_.1 : Value).ownBlock) s_.2.1 t26006) ∧ (w'.heap[gb26001]? = some (.cells #[.slice A0_0 l0_0.length c0_0, .slice A0_1 l0_1.length c0_1] 24 (0, 0))) ∧ (w'.heap[gb26002]? = some (.cells #[.slice none 0 0, .slice none 0 0] 24 (0, 0))) ∧ (w'.heap[s_.2.2]? = some (.cells #[.slice none 0 0, .slice none 0 0] 24 (0, 0))) ∧ (w.heap.size ≤ s_.2.2) ∧ (w.heap.size ≤ s_.2.2) ∧ (gb26001 ≠ s_.2.2) ∧ (s_.2.2 ≠ gb26001) ∧ (gb26002 ≠ s_.2.2) ∧ (s_.2.2 ≠ gb26002) ∧ (Below w.heap.size w w')) ?_ ?_
      rotate_left
      · intro hCont
        refine two_ (i := 2) (j := 7) (Ni := some 8) (Nj := some 5) #[true, true, true, true, true, false, false, false, false] #[true, true, false, true, true, false, false, true, false] rfl rfl rfl rfl (two_of HT_.out (by kernel_rfl)) (by decide) (by decide) (fun K hK => ?_) (fun K hK => ?_)
        · skip
          refine goes_ Try.func64 (by kernel_rfl) rfl #[.slice A0_0 l0_0.length c0_0] (by rfl) rfl rfl (by (try simp only [List.map_toArray, List.map_cons, List.map_nil]); first | done | rfl | (simp only [List.length_drop, List.length_take]; rfl)) ?_
          with_reducible refine (slices_Clone_byte_byte.calls _ _ l0_0 t26003 _ ?side1 ?side2 A3.out).mono ?_
          (case side1 => repeat (first | exact (Kd.C_below HR0_0.out HB.out) | (with_reducible refine Kd.C_alloc ?_ _) | (with_reducible refine Kd.C_drewN ?_ _) | (with_reducible refine Kd.C_drew ?_)))
          (case side2 => exact HC0_0.out)
          rintro e w16 ⟨v26004, rfl, ho0, hb⟩
          refine ⟨_, rfl, ?_⟩
          have n0_ := Aside0.mk (Kd.R_lower ho0 (below_size (below_extB HB.out)))
          have HO26005 := n0_
          replace BK26001 := mvB BK26001 hb
          replace BK26002 := mvB BK26002 hb
          replace HB := mvH HB hb
          clear n0_
          (try clear hb)
          (try clear hb2)
          (try clear hk)
          (try clear hi)
          (try clear ho0)
          refine hK.out _ _ ⟨(blk_cell BK26001.out 0).trans rfl, (blk_cell BK26001.out 1).trans rfl⟩ (fun hHeld => ?_)
          clear hK K
          refine norm_ (a' := ?_) ?_ ?_
          rotate_left
          · show Act.put _ (some 8) _ = _
            simp only [Act.put, List.setIfInBounds_toArray, List.set_cons_zero, List.set_cons_succ, i64_w, i32_w]
            rfl
          refine two_ (i := 5) (j := 7) (Ni := some 11) (Nj := some 5) #[true, true, true, true, true, true, false, false, false] #[true, true, true, true, true, false, false, true, false] rfl rfl rfl rfl (two_of HT_.out (by kernel_rfl)) (by decide) (by decide) (fun K hK => ?_) (fun K hK => ?_)
          · skip
            refine goes_ Try.func64 (by kernel_rfl) rfl #[.slice A0_1 l0_1.length c0_1] (by rfl) rfl rfl (by (try simp only [List.map_toArray, List.map_cons, List.map_nil]); first | done | rfl | (simp only [List.length_drop, List.length_take]; rfl)) ?_
            with_reducible refine (slices_Clone_byte_byte.calls _ _ l0_1 t26006 _ ?side1 ?side2 A4.out).mono ?_
            (case side1 => repeat (first | exact (Kd.C_below HR0_1.out HB.out) | (with_reducible refine Kd.C_alloc ?_ _) | (with_reducible refine Kd.C_drewN ?_ _) | (with_reducible refine Kd.C_drew ?_)))
            (case side2 => exact HC0_1.out)
            rintro e w17 ⟨v26007, rfl, ho0, hb⟩
            refine ⟨_, rfl, ?_⟩
            have n1_ := Aside0.mk (Kd.R_lower (Kd.R_new' ho0 (Kd.R_lt (Kd.R_ext HO26005.out))) (below_size (below_extB HB.out)))
            have HO26008 := n1_
            replace HO26005 := apR HO26005 hb (Kd.R_base ho0)
            replace BK26001 := mvB BK26001 hb
            replace BK26002 := mvB BK26002 hb
            replace HB := mvH HB hb
            clear n1_
            (try clear hb)
            (try clear hb2)
            (try clear hk)
            (try clear hi)
            (try clear ho0)
            obtain ⟨Ao18, co18, eo18⟩ := Kd.R_slice HO26008.out
            (first | subst eo18 | (injection eo18 with f1_ f2_ f3_; have f4_ := f1_.symm; have f5_ := f3_.symm; clear f1_ f2_ f3_; subst f4_; subst f5_))
            obtain ⟨Ao19, co19, eo19⟩ := Kd.R_slice HO26005.out
            (first | subst eo19 | (injection eo19 with f1_ f2_ f3_; have f4_ := f1_.symm; have f5_ := f3_.symm; clear f1_ f2_ f3_; subst f4_; subst f5_))
            refine hK.out _ _ ⟨(blk_cell BK26001.out 0).trans rfl, (blk_cell BK26001.out 1).trans rfl⟩ (fun hHeld => ?_)
            clear hK K
            refine norm_ (a' := ?_) ?_ ?_
            rotate_left
            · show Act.put _ (some 11) _ = _
              simp only [Act.put, List.setIfInBounds_toArray, List.set_cons_zero, List.set_cons_succ, i64_w, i32_w]
              rfl
            refine pure_ (i := 6) (N := some 12) (v := ?_) (a' := ?_) #[true, true, true, true, true, true, true, false, false] rfl rfl (any_of HT_.out (by kernel_rfl)) (fun _ _ _ h => h) (Or.inl ⟨by rfl, ?_⟩) ?_ ?_
            rotate_left
            · intro w'
              go_simp
              with_reducible rfl
            rotate_left
            · simp only [Act.put, List.setIfInBounds_toArray, List.set_cons_zero, List.set_cons_succ, i64_w, i32_w]
              rfl
            refine one_ (i := 7) (N := some 5) #[true, true, true, true, true, true, true, true, false] rfl rfl (one_of HT_.out (by kernel_rfl)) (by decide) (fun K hK => ?_)
            refine box_step ?hg (N := 5) ?hd (cs := #[.slice none 0 0, .slice none 0 0]) (t := 24) ?hr ?_; (case hd => rfl); (case hg => rfl); (case hr => first | (go_simp; done) | (go_simp; rfl))
            intro gb26009 hg w20 hbox hb
            have n5_ := Aside0.mk (hbox)
            have n6_ := Aside0.mk ((by rw [hg]; exact (below_size (below_extB HB.out)) : w.heap.size ≤ gb26009))
            have n7_ := Aside0.mk ((by rw [hg]; exact (below_size (below_extB HB.out)) : w.heap.size ≤ gb26009))
            have n8_ := Aside0.mk ((by rw [hg]; exact Nat.ne_of_lt (blk_lt (blk_ext BK26001.out)) : gb26001 ≠ gb26009))
            have n9_ := Aside0.mk ((by rw [hg]; exact Nat.ne_of_gt (blk_lt (blk_ext BK26001.out)) : gb26009 ≠ gb26001))
            have n10_ := Aside0.mk ((by rw [hg]; exact Nat.ne_of_lt (blk_lt (blk_ext BK26002.out)) : gb26002 ≠ gb26009))
            have n11_ := Aside0.mk ((by rw [hg]; exact Nat.ne_of_gt (blk_lt (blk_ext BK26002.out)) : gb26009 ≠ gb26002))
            have BK26009 := n5_
            have GW26009 := n6_
            have GE26009 := n7_; have GI26009 := GE_.mk GE26009.out
            have NB26001_26009 := n8_; have NI26001_26009 := NE_.mk NB26001_26009.out
            have NB26009_26001 := n9_; have NI26009_26001 := NE_.mk NB26009_26001.out
            have NB26002_26009 := n10_; have NI26002_26009 := NE_.mk NB26002_26009.out
            have NB26009_26002 := n11_; have NI26009_26002 := NE_.mk NB26009_26002.out
            replace HO26005 := mvR HO26005 hb
            replace HO26008 := mvR HO26008 hb
            replace BK26001 := mvB BK26001 hb
            replace BK26002 := mvB BK26002 hb
            replace HB := mvH HB hb
            clear n5_ n6_ n7_ n8_ n9_ n10_ n11_
            clear hb hbox hg
            refine hK.out _ _ ⟨(blk_cell BK26001.out 0).trans rfl, (blk_cell BK26001.out 1).trans rfl⟩ (fun hHeld => ?_)
            clear hK K
            refine norm_ (a' := ?_) ?_ ?_
            rotate_left
            · show Act.put _ (some 5) _ = _
              simp only [Act.put, List.setIfInBounds_toArray, List.set_cons_zero, List.set_cons_succ, i64_w, i32_w]
              rfl
            exact norm_ (by simp only [putAll, Act.put, List.setIfInBounds_toArray, List.set_cons_zero, List.set_cons_succ]) (hCont (.slice Ao19 t26003.length co19, .slice Ao18 t26006.length co18, gb26009) _ ⟨hHeld, (Kd.R_ext (Kd.R_mono HO26005.out (fun _ hk => hk.2))), (Kd.R_ext (Kd.R_mono HO26008.out (fun _ hk => hk.2))), (blk_ext BK26001.out), (blk_ext BK26002.out), (blk_ext BK26009.out), GW26009.out, GE26009.out, NB26001_26009.out, NB26009_26001.out, NB26002_26009.out, NB26009_26002.out, (below_extB HB.out)⟩)
          · skip
            refine box_step ?hg (N := 5) ?hd (cs := #[.slice none 0 0, .slice none 0 0]) (t := 24) ?hr ?_; (case hd => rfl); (case hg => rfl); (case hr => first | (go_simp; done) | (go_simp; rfl))
            intro gb26009 hg w17 hbox hb
            have n4_ := Aside0.mk (hbox)
            have n5_ := Aside0.mk ((by rw [hg]; exact (below_size (below_extB HB.out)) : w.heap.size ≤ gb26009))
            have n6_ := Aside0.mk ((by rw [hg]; exact (below_size (below_extB HB.out)) : w.heap.size ≤ gb26009))
            have n7_ := Aside0.mk ((by rw [hg]; exact Nat.ne_of_lt (blk_lt (blk_ext BK26001.out)) : gb26001 ≠ gb26009))
            have n8_ := Aside0.mk ((by rw [hg]; exact Nat.ne_of_gt (blk_lt (blk_ext BK26001.out)) : gb26009 ≠ gb26001))
            have n9_ := Aside0.mk ((by rw [hg]; exact Nat.ne_of_lt (blk_lt (blk_ext BK26002.out)) : gb26002 ≠ gb26009))
            have n10_ := Aside0.mk ((by rw [hg]; exact Nat.ne_of_gt (blk_lt (blk_ext BK26002.out)) : gb26009 ≠ gb26002))
            have BK26009 := n4_
            have GW26009 := n5_
            have GE26009 := n6_; have GI26009 := GE_.mk GE26009.out
            have NB26001_26009 := n7_; have NI26001_26009 := NE_.mk NB26001_26009.out
            have NB26009_26001 := n8_; have NI26009_26001 := NE_.mk NB26009_26001.out
            have NB26002_26009 := n9_; have NI26002_26009 := NE_.mk NB26002_26009.out
            have NB26009_26002 := n10_; have NI26009_26002 := NE_.mk NB26009_26002.out
            replace HO26005 := mvR HO26005 hb
            replace BK26001 := mvB BK26001 hb
            replace BK26002 := mvB BK26002 hb
            replace HB := mvH HB hb
            clear n4_ n5_ n6_ n7_ n8_ n9_ n10_
            clear hb hbox hg
            refine hK.out _ _ ⟨(blk_cell BK26001.out 0).trans rfl, (blk_cell BK26001.out 1).trans rfl⟩ (fun hHeld => ?_)
            clear hK K
            refine norm_ (a' := ?_) ?_ ?_
            rotate_left
            · show Act.put _ (some 5) _ = _
              simp only [Act.put, List.setIfInBounds_toArray, List.set_cons_zero, List.set_cons_succ, i64_w, i32_w]
              rfl
            refine one_ (i := 5) (N := some 11) #[true, true, true, true, true, true, false, true, false] rfl rfl (one_of HT_.out (by kernel_rfl)) (by decide) (fun K hK => ?_)
            refine goes_ Try.func64 (by kernel_rfl) rfl #[.slice A0_1 l0_1.length c0_1] (by rfl) rfl rfl (by (try simp only [List.map_toArray, List.map_cons, List.map_nil]); first | done | rfl | (simp only [List.length_drop, List.length_take]; rfl)) ?_
            with_reducible refine (slices_Clone_byte_byte.calls _ _ l0_1 t26006 _ ?side1 ?side2 A4.out).mono ?_
            (case side1 => repeat (first | exact (Kd.C_below HR0_1.out HB.out) | (with_reducible refine Kd.C_alloc ?_ _) | (with_reducible refine Kd.C_drewN ?_ _) | (with_reducible refine Kd.C_drew ?_)))
            (case side2 => exact HC0_1.out)
            rintro e w18 ⟨v26007, rfl, ho0, hb⟩
            refine ⟨_, rfl, ?_⟩
            have n1_ := Aside0.mk (Kd.R_lower (Kd.R_new' ho0 (Kd.R_lt (Kd.R_ext HO26005.out))) (below_size (below_extB HB.out)))
            have HO26008 := n1_
            replace HO26005 := apR HO26005 hb (Kd.R_base ho0)
            replace BK26001 := mvB BK26001 hb
            replace BK26002 := mvB BK26002 hb
            replace BK26009 := mvB BK26009 hb
            replace HB := mvH HB hb
            clear n1_
            (try clear hb)
            (try clear hb2)
            (try clear hk)
            (try clear hi)
            (try clear ho0)
            obtain ⟨Ao19, co19, eo19⟩ := Kd.R_slice HO26008.out
            (first | subst eo19 | (injection eo19 with f1_ f2_ f3_; have f4_ := f1_.symm; have f5_ := f3_.symm; clear f1_ f2_ f3_; subst f4_; subst f5_))
            obtain ⟨Ao20, co20, eo20⟩ := Kd.R_slice HO26005.out
            (first | subst eo20 | (injection eo20 with f1_ f2_ f3_; have f4_ := f1_.symm; have f5_ := f3_.symm; clear f1_ f2_ f3_; subst f4_; subst f5_))
            refine hK.out _ _ ⟨(blk_cell BK26001.out 0).trans rfl, (blk_cell BK26001.out 1).trans rfl⟩ (fun hHeld => ?_)
            clear hK K
            refine norm_ (a' := ?_) ?_ ?_
            rotate_left
            · show Act.put _ (some 11) _ = _
              simp only [Act.put, List.setIfInBounds_toArray, List.set_cons_zero, List.set_cons_succ, i64_w, i32_w]
              rfl
            refine pure_ (i := 6) (N := some 12) (v := ?_) (a' := ?_) #[true, true, true, true, true, true, true, true, false] rfl rfl (any_of HT_.out (by kernel_rfl)) (fun _ _ _ h => h) (Or.inl ⟨by rfl, ?_⟩) ?_ ?_
            rotate_left
            · intro w'
              go_simp
              with_reducible rfl
            rotate_left
            · simp only [Act.put, List.setIfInBounds_toArray, List.set_cons_zero, List.set_cons_succ, i64_w, i32_w]
              rfl
            exact norm_ (by simp only [putAll, Act.put, List.setIfInBounds_toArray, List.set_cons_zero, List.set_cons_succ]) (hCont (.slice Ao20 t26003.length co20, .slice Ao19 t26006.length co19, gb26009) _ ⟨hHeld, (Kd.R_ext (Kd.R_mono HO26005.out (fun _ hk => hk.2))), (Kd.R_ext (Kd.R_mono HO26008.out (fun _ hk => hk.2))), (blk_ext BK26001.out), (blk_ext BK26002.out), (blk_ext BK26009.out), GW26009.out, GE26009.out, NB26001_26009.out, NB26009_26001.out, NB26002_26009.out, NB26009_26002.out, (below_extB HB.out)⟩)
        · skip
          refine box_step ?hg (N := 5) ?hd (cs := #[.slice none 0 0, .slice none 0 0]) (t := 24) ?hr ?_; (case hd => rfl); (case hg => rfl); (case hr => first | (go_simp; done) | (go_simp; rfl))
          intro gb26009 hg w16 hbox hb
          have n3_ := Aside0.mk (hbox)
          have n4_ := Aside0.mk ((by rw [hg]; exact (below_size (below_extB HB.out)) : w.heap.size ≤ gb26009))
          have n5_ := Aside0.mk ((by rw [hg]; exact (below_size (below_extB HB.out)) : w.heap.size ≤ gb26009))
          have n6_ := Aside0.mk ((by rw [hg]; exact Nat.ne_of_lt (blk_lt (blk_ext BK26001.out)) : gb26001 ≠ gb26009))
          have n7_ := Aside0.mk ((by rw [hg]; exact Nat.ne_of_gt (blk_lt (blk_ext BK26001.out)) : gb26009 ≠ gb26001))
          have n8_ := Aside0.mk ((by rw [hg]; exact Nat.ne_of_lt (blk_lt (blk_ext BK26002.out)) : gb26002 ≠ gb26009))
          have n9_ := Aside0.mk ((by rw [hg]; exact Nat.ne_of_gt (blk_lt (blk_ext BK26002.out)) : gb26009 ≠ gb26002))
          have BK26009 := n3_
          have GW26009 := n4_
          have GE26009 := n5_; have GI26009 := GE_.mk GE26009.out
          have NB26001_26009 := n6_; have NI26001_26009 := NE_.mk NB26001_26009.out
          have NB26009_26001 := n7_; have NI26009_26001 := NE_.mk NB26009_26001.out
          have NB26002_26009 := n8_; have NI26002_26009 := NE_.mk NB26002_26009.out
          have NB26009_26002 := n9_; have NI26009_26002 := NE_.mk NB26009_26002.out
          replace BK26001 := mvB BK26001 hb
          replace BK26002 := mvB BK26002 hb
          replace HB := mvH HB hb
          clear n3_ n4_ n5_ n6_ n7_ n8_ n9_
          clear hb hbox hg
          refine hK.out _ _ ⟨(blk_cell BK26001.out 0).trans rfl, (blk_cell BK26001.out 1).trans rfl⟩ (fun hHeld => ?_)
          clear hK K
          refine norm_ (a' := ?_) ?_ ?_
          rotate_left
          · show Act.put _ (some 5) _ = _
            simp only [Act.put, List.setIfInBounds_toArray, List.set_cons_zero, List.set_cons_succ, i64_w, i32_w]
            rfl
          refine one_ (i := 2) (N := some 8) #[true, true, true, true, true, false, false, true, false] rfl rfl (one_of HT_.out (by kernel_rfl)) (by decide) (fun K hK => ?_)
          refine goes_ Try.func64 (by kernel_rfl) rfl #[.slice A0_0 l0_0.length c0_0] (by rfl) rfl rfl (by (try simp only [List.map_toArray, List.map_cons, List.map_nil]); first | done | rfl | (simp only [List.length_drop, List.length_take]; rfl)) ?_
          with_reducible refine (slices_Clone_byte_byte.calls _ _ l0_0 t26003 _ ?side1 ?side2 A3.out).mono ?_
          (case side1 => repeat (first | exact (Kd.C_below HR0_0.out HB.out) | (with_reducible refine Kd.C_alloc ?_ _) | (with_reducible refine Kd.C_drewN ?_ _) | (with_reducible refine Kd.C_drew ?_)))
          (case side2 => exact HC0_0.out)
          rintro e w17 ⟨v26004, rfl, ho0, hb⟩
          refine ⟨_, rfl, ?_⟩
          have n0_ := Aside0.mk (Kd.R_lower ho0 (below_size (below_extB HB.out)))
          have HO26005 := n0_
          replace BK26001 := mvB BK26001 hb
          replace BK26002 := mvB BK26002 hb
          replace BK26009 := mvB BK26009 hb
          replace HB := mvH HB hb
          clear n0_
          (try clear hb)
          (try clear hb2)
          (try clear hk)
          (try clear hi)
          (try clear ho0)
          refine hK.out _ _ ⟨(blk_cell BK26001.out 0).trans rfl, (blk_cell BK26001.out 1).trans rfl⟩ (fun hHeld => ?_)
          clear hK K
          refine norm_ (a' := ?_) ?_ ?_
          rotate_left
          · show Act.put _ (some 8) _ = _
            simp only [Act.put, List.setIfInBounds_toArray, List.set_cons_zero, List.set_cons_succ, i64_w, i32_w]
            rfl
          refine one_ (i := 5) (N := some 11) #[true, true, true, true, true, true, false, true, false] rfl rfl (one_of HT_.out (by kernel_rfl)) (by decide) (fun K hK => ?_)
          refine goes_ Try.func64 (by kernel_rfl) rfl #[.slice A0_1 l0_1.length c0_1] (by rfl) rfl rfl (by (try simp only [List.map_toArray, List.map_cons, List.map_nil]); first | done | rfl | (simp only [List.length_drop, List.length_take]; rfl)) ?_
          with_reducible refine (slices_Clone_byte_byte.calls _ _ l0_1 t26006 _ ?side1 ?side2 A4.out).mono ?_
          (case side1 => repeat (first | exact (Kd.C_below HR0_1.out HB.out) | (with_reducible refine Kd.C_alloc ?_ _) | (with_reducible refine Kd.C_drewN ?_ _) | (with_reducible refine Kd.C_drew ?_)))
          (case side2 => exact HC0_1.out)
          rintro e w18 ⟨v26007, rfl, ho0, hb⟩
          refine ⟨_, rfl, ?_⟩
          have n1_ := Aside0.mk (Kd.R_lower (Kd.R_new' ho0 (Kd.R_lt (Kd.R_ext HO26005.out))) (below_size (below_extB HB.out)))
          have HO26008 := n1_
          replace HO26005 := apR HO26005 hb (Kd.R_base ho0)
          replace BK26001 := mvB BK26001 hb
          replace BK26002 := mvB BK26002 hb
          replace BK26009 := mvB BK26009 hb
          replace HB := mvH HB hb
          clear n1_
          (try clear hb)
          (try clear hb2)
          (try clear hk)
          (try clear hi)
          (try clear ho0)
          obtain ⟨Ao19, co19, eo19⟩ := Kd.R_slice HO26008.out
          (first | subst eo19 | (injection eo19 with f1_ f2_ f3_; have f4_ := f1_.symm; have f5_ := f3_.symm; clear f1_ f2_ f3_; subst f4_; subst f5_))
          obtain ⟨Ao20, co20, eo20⟩ := Kd.R_slice HO26005.out
          (first | subst eo20 | (injection eo20 with f1_ f2_ f3_; have f4_ := f1_.symm; have f5_ := f3_.symm; clear f1_ f2_ f3_; subst f4_; subst f5_))
          refine hK.out _ _ ⟨(blk_cell BK26001.out 0).trans rfl, (blk_cell BK26001.out 1).trans rfl⟩ (fun hHeld => ?_)
          clear hK K
          refine norm_ (a' := ?_) ?_ ?_
          rotate_left
          · show Act.put _ (some 11) _ = _
            simp only [Act.put, List.setIfInBounds_toArray, List.set_cons_zero, List.set_cons_succ, i64_w, i32_w]
            rfl
          refine pure_ (i := 6) (N := some 12) (v := ?_) (a' := ?_) #[true, true, true, true, true, true, true, true, false] rfl rfl (any_of HT_.out (by kernel_rfl)) (fun _ _ _ h => h) (Or.inl ⟨by rfl, ?_⟩) ?_ ?_
          rotate_left
          · intro w'
            go_simp
            with_reducible rfl
          rotate_left
          · simp only [Act.put, List.setIfInBounds_toArray, List.set_cons_zero, List.set_cons_succ, i64_w, i32_w]
            rfl
          exact norm_ (by simp only [putAll, Act.put, List.setIfInBounds_toArray, List.set_cons_zero, List.set_cons_succ]) (hCont (.slice Ao20 t26003.length co20, .slice Ao19 t26006.length co19, gb26009) _ ⟨hHeld, (Kd.R_ext (Kd.R_mono HO26005.out (fun _ hk => hk.2))), (Kd.R_ext (Kd.R_mono HO26008.out (fun _ hk => hk.2))), (blk_ext BK26001.out), (blk_ext BK26002.out), (blk_ext BK26009.out), GW26009.out, GE26009.out, NB26001_26009.out, NB26009_26001.out, NB26002_26009.out, NB26009_26002.out, (below_extB HB.out)⟩)
      rintro ⟨v26004, v26007, gb26009⟩ w21 ⟨hS_, h0_, h1_, h2_, h3_, h4_, h5_, h6_, h7_, h8_, h9_, h10_, h11_⟩
      have n0_ : Aside0 (Kd.R (Kd.int .u8) 5 w21 w.heap.size (fun k_ => some k_ ≠ (v26007 : Value).ownBlock) v26004 t26003) := ⟨h0_⟩
      have n1_ : Aside0 (Kd.R (Kd.int .u8) 5 w21 w.heap.size (fun k_ => some k_ ≠ (v26004 : Value).ownBlock) v26007 t26006) := ⟨h1_⟩
      have n2_ : Aside0 (w21.heap[gb26001]? = some (.cells #[.slice A0_0 l0_0.length c0_0, .slice A0_1 l0_1.length c0_1] 24 (0, 0))) := ⟨h2_⟩
      have n3_ : Aside0 (w21.heap[gb26002]? = some (.cells #[.slice none 0 0, .slice none 0 0] 24 (0, 0))) := ⟨h3_⟩
      have n4_ : Aside0 (w21.heap[gb26009]? = some (.cells #[.slice none 0 0, .slice none 0 0] 24 (0, 0))) := ⟨h4_⟩
      have n5_ : Aside0 (w.heap.size ≤ gb26009) := ⟨h5_⟩
      have n6_ : Aside0 (w.heap.size ≤ gb26009) := ⟨h6_⟩
      have n7_ : Aside0 (gb26001 ≠ gb26009) := ⟨h7_⟩
      have n8_ : Aside0 (gb26009 ≠ gb26001) := ⟨h8_⟩
      have n9_ : Aside0 (gb26002 ≠ gb26009) := ⟨h9_⟩
      have n10_ : Aside0 (gb26009 ≠ gb26002) := ⟨h10_⟩
      have n11_ : Aside0 (Below w.heap.size w w21) := ⟨h11_⟩
      clear BK26001
      clear BK26002
      clear HB
      clear h0_ h1_ h2_ h3_ h4_ h5_ h6_ h7_ h8_ h9_ h10_ h11_
      have HO26005 := n0_
      have HO26008 := n1_
      have BK26001 := n2_
      have BK26002 := n3_
      have BK26009 := n4_
      have GW26009 := n5_
      have GE26009 := n6_; have GI26009 := GE_.mk GE26009.out
      have NB26001_26009 := n7_; have NI26001_26009 := NE_.mk NB26001_26009.out
      have NB26009_26001 := n8_; have NI26009_26001 := NE_.mk NB26009_26001.out
      have NB26002_26009 := n9_; have NI26002_26009 := NE_.mk NB26002_26009.out
      have NB26009_26002 := n10_; have NI26009_26002 := NE_.mk NB26009_26002.out
      have HB := n11_
      clear n0_ n1_ n2_ n3_ n4_ n5_ n6_ n7_ n8_ n9_ n10_ n11_
      have hHeld : w21.cell? ⟨gb26001, 0, none⟩ = some (.slice A0_0 l0_0.length c0_0) ∧ w21.cell? ⟨gb26001, 1, none⟩ = some (.slice A0_1 l0_1.length c0_1) := hS_
      obtain ⟨Ao22, co22, eo22⟩ := Kd.R_slice HO26008.out
      (first | subst eo22 | (injection eo22 with f1_ f2_ f3_; have f4_ := f1_.symm; have f5_ := f3_.symm; clear f1_ f2_ f3_; subst f4_; subst f5_))
      obtain ⟨Ao23, co23, eo23⟩ := Kd.R_slice HO26005.out
      (first | subst eo23 | (injection eo23 with f1_ f2_ f3_; have f4_ := f1_.symm; have f5_ := f3_.symm; clear f1_ f2_ f3_; subst f4_; subst f5_))
      refine norm_ (a' := ?_) ?_ ?_
      rotate_left
      · simp only [putAll, Act.put, List.setIfInBounds_toArray, List.set_cons_zero, List.set_cons_succ]
        rfl
      refine one_ (i := 8) (N := none) #[true, true, true, true, true, true, true, true, true] rfl rfl (one_of HT_.out (by kernel_rfl)) (by decide) (fun K hK => ?_)
      have hs24 : w21.cell? ⟨gb26009, 0, none⟩ = some (.slice none 0 0) := (blk_cell BK26009.out 0).trans rfl
      have hfs24 := blk_frozen BK26009.out 0
      have hns24_0 := NB26001_26009.out
      have hns24_1 := NB26002_26009.out
      have hms24_0 := NB26009_26001.out
      have hms24_1 := NB26009_26002.out
      have hs25 : w21.cell? ⟨gb26009, 1, none⟩ = some (.slice none 0 0) := (blk_cell BK26009.out 1).trans rfl
      have hfs25 := blk_frozen BK26009.out 1
      have hns25_0 := NB26001_26009.out
      have hns25_1 := NB26002_26009.out
      have hms25_0 := NB26009_26001.out
      have hms25_1 := NB26009_26002.out
      refine skip_ (w1 := ?_) (by rfl) rfl ?_ ?_
      rotate_left
      · go_simp
        rfl
      refine hK.out _ _ ⟨((cell_far (p := ⟨gb26009, _, none⟩) NB26001_26009.out _).trans (((cell_far (p := ⟨gb26009, _, none⟩) NB26001_26009.out _).trans (hHeld.1)))), ((cell_far (p := ⟨gb26009, _, none⟩) NB26001_26009.out _).trans (((cell_far (p := ⟨gb26009, _, none⟩) NB26001_26009.out _).trans (hHeld.2))))⟩ (fun hHeld => ?_)
      clear hK K
      refine done_ (done_of HT_.out (by kernel_rfl)) ?_
      have hnb26 := NB26009_26001.out
      have hnc26 := NB26001_26009.out
      have hnb27 := NB26009_26002.out
      have hnc27 := NB26002_26009.out
      have hcz28_0 : w21.cell? ⟨gb26009, 0, none⟩ = some (.slice none 0 0) := (blk_cell BK26009.out 0).trans rfl
      have hcz28_1 : w21.cell? ⟨gb26009, 1, none⟩ = some (.slice none 0 0) := (blk_cell BK26009.out 1).trans rfl
      have hfz28_0 := blk_frozen BK26009.out 0
      have hfz28_1 := blk_frozen BK26009.out 1
      try go_wp2
      have n0_ : Aside0 (Kd.R (Kd.int .u8) 5 ((w21.setCell ⟨gb26009, 0, none⟩ (.slice Ao23 t26003.length co23)).setCell ⟨gb26009, 1, none⟩ (.slice Ao22 t26006.length co22)) w.heap.size (fun k_ => some k_ ≠ (.slice Ao22 t26006.length co22 : Value).ownBlock) (.slice Ao23 t26003.length co23) t26003) := ⟨Kd.R_ext (Kd.R_mono (Kd.R_far (p := ⟨gb26009, 1, none⟩) (Kd.R_far (p := ⟨gb26009, 0, none⟩) (Kd.R_types HO26005.out BK26009.out (by decide)) (fun _ hk => hk.2) (.slice Ao23 t26003.length co23)) (fun _ hk => hk.2) (.slice Ao22 t26006.length co22)) (fun _ hk => hk.1))⟩
      have n1_ : Aside0 (Kd.R (Kd.int .u8) 5 ((w21.setCell ⟨gb26009, 0, none⟩ (.slice Ao23 t26003.length co23)).setCell ⟨gb26009, 1, none⟩ (.slice Ao22 t26006.length co22)) w.heap.size (fun k_ => some k_ ≠ (.slice Ao23 t26003.length co23 : Value).ownBlock) (.slice Ao22 t26006.length co22) t26006) := ⟨Kd.R_ext (Kd.R_mono (Kd.R_far (p := ⟨gb26009, 1, none⟩) (Kd.R_far (p := ⟨gb26009, 0, none⟩) (Kd.R_types HO26008.out BK26009.out (by decide)) (fun _ hk => hk.2) (.slice Ao23 t26003.length co23)) (fun _ hk => hk.2) (.slice Ao22 t26006.length co22)) (fun _ hk => hk.1))⟩
      have n2_ : Aside0 (((w21.setCell ⟨gb26009, 0, none⟩ (.slice Ao23 t26003.length co23)).setCell ⟨gb26009, 1, none⟩ (.slice Ao22 t26006.length co22)).heap[gb26001]? = some (.cells #[.slice A0_0 l0_0.length c0_0, .slice A0_1 l0_1.length c0_1] 24 (0, 0))) := ⟨blk_extC BK26001.out⟩
      have n3_ : Aside0 (((w21.setCell ⟨gb26009, 0, none⟩ (.slice Ao23 t26003.length co23)).setCell ⟨gb26009, 1, none⟩ (.slice Ao22 t26006.length co22)).heap[gb26002]? = some (.cells #[.slice none 0 0, .slice none 0 0] 24 (0, 0))) := ⟨blk_extC BK26002.out⟩
      have n4_ : Aside0 (((w21.setCell ⟨gb26009, 0, none⟩ (.slice Ao23 t26003.length co23)).setCell ⟨gb26009, 1, none⟩ (.slice Ao22 t26006.length co22)).heap[gb26009]? = some (.cells #[.slice Ao23 t26003.length co23, .slice Ao22 t26006.length co22] 24 (0, 0))) := ⟨by (with_reducible repeat (first | refine blk_drewN ?_ _ | refine blk_drew ?_ | refine blk_alloc ?_ _)); refine blk_put (cs := #[.slice Ao23 t26003.length co23, .slice none 0 0]) ?_ 1 _ rfl; (with_reducible repeat (first | refine blk_drewN ?_ _ | refine blk_drew ?_ | refine blk_alloc ?_ _)); refine blk_put (cs := #[.slice none 0 0, .slice none 0 0]) ?_ 0 _ rfl; exact blk_ext BK26009.out⟩
      have n5_ : Aside0 (Below w.heap.size w ((w21.setCell ⟨gb26009, 0, none⟩ (.slice Ao23 t26003.length co23)).setCell ⟨gb26009, 1, none⟩ (.slice Ao22 t26006.length co22))) := ⟨below_extB HB.out⟩
      (try clear HO26005)
      (try clear HO26008)
      (try clear BK26001)
      (try clear BK26002)
      (try clear BK26009)
      (try clear HB)
      generalize ((w21.setCell ⟨gb26009, 0, none⟩ (.slice Ao23 t26003.length co23)).setCell ⟨gb26009, 1, none⟩ (.slice Ao22 t26006.length co22)) = w29 at n0_ n1_ n2_ n3_ n4_ n5_ ⊢
      have HO26005 := n0_
      have HO26008 := n1_
      have BK26001 := n2_
      have BK26002 := n3_
      have BK26009 := n4_
      have HB := n5_
      clear n0_ n1_ n2_ n3_ n4_ n5_
      have n0_ := Aside0.mk (Kd.R_drew HO26005.out)
      have n1_ := Aside0.mk (Kd.R_drew HO26008.out)
      have n2_ := Aside0.mk (blk_drew BK26001.out)
      have n3_ := Aside0.mk (blk_drew BK26002.out)
      have n4_ := Aside0.mk (blk_drew BK26009.out)
      have n5_ := Aside0.mk (below_drew1 HB.out)
      clear HO26005
      clear HO26008
      clear BK26001
      clear BK26002
      clear BK26009
      clear HB
      have HO26005 := n0_
      have HO26008 := n1_
      have BK26001 := n2_
      have BK26002 := n3_
      have BK26009 := n4_
      have HB := n5_
      clear n0_ n1_ n2_ n3_ n4_ n5_
      have p26010 : 0 ≤ ((ji7) : Int) := of_decide_eq_true (by first | (with_reducible assumption) | assumption)
      have q26010 : (ji7) < (t26003.length : Int) := of_decide_eq_true (by first | (with_reducible assumption) | assumption)
      obtain ⟨ad26010, e26010, hx26010_0⟩ := Kd.at_int (Kd.R_reads' HO26005.out).2.2 (ji7) p26010 q26010
      cases e26010
      replace p26010 := eq_true p26010
      replace q26010 := eq_true q26010
      have p12 : 0 ≤ ((ji7) : Int) := of_decide_eq_true (by first | (with_reducible assumption) | assumption)
      have q12 : ((ji7) : Int) < ((t26003.length : Int) : Int) := of_decide_eq_true (by first | (with_reducible assumption) | assumption)
      obtain ⟨go12, co12, eo12, gb12, gl12, cl12, HG12⟩ := Kd.R_form HO26005.out (by omega)
      (first | cases eo12 | (injection eo12 with ea_ en_ ec_; (first | subst ea_ | (injection ea_ with ea_; subst ea_)); subst ec_; clear en_))
      have GB12 := Aside0.mk gb12
      have GG12 := Aside0.mk HG12
      clear gb12 gl12 HG12
      (first | simp only [add_plain] at hx26010_0 | skip)
      obtain ⟨hx12_0, hf12_0⟩ := Kd.R_celln 0 HO26005.out ((ji7) : Int) p12 q12
      replace p12 := eq_true p12
      replace q12 := eq_true q12
      have HP31 := Kd.R_putn HO26005.out ((ji7) : Int) (Go.bits .xor .u8 (rd t26003 (ji7)) (ji11))
      rw [← Ny26011.out] at HP31
      have HQ31 := Aside0.mk HP31
      clear HP31
      refine start_ (n := 12) (S := fun w' => w'.cell? ⟨gb26009, 0, none⟩ = some (.slice (some ⟨go12, 0, none⟩) t26003.length co23) ∧ w'.cell? ⟨gb26009, 1, none⟩ = some (.slice Ao22 t26006.length co22) ∧ w'.cell? ⟨go12, ((ji7)).toNat, none⟩ = some (.int .u8 (rd t26003 (ji7)))) (ds := [11]) #[false, false, false, false, false, false, false, false, false, false, false, false] (by kernel_rfl) rfl rfl ⟨(blk_cell BK26009.out 0).trans rfl, (blk_cell BK26009.out 1).trans rfl, hx26010_0⟩ (fun hHeld => ?_); refine with_tabW disk_Flip.tab3 disk_Flip.bits3 (fun HT_ HW_ => ?_)
      generalize w29.drew = w30 at HO26005 HO26008 BK26001 BK26002 BK26009 HB GG12 HQ31 hf12_0 hx12_0 hx26010_0 hHeld ⊢
      refine pure_ (i := 0) (N := some 23) (v := ?_) (a' := ?_) #[true, false, false, false, false, false, false, false, false, false, false, false] rfl rfl (any_of HT_.out (by kernel_rfl)) (fun _ _ _ h => h) (Or.inl ⟨by rfl, ?_⟩) ?_ ?_
      rotate_left
      · intro w'
        go_simp
        with_reducible rfl
      rotate_left
      · simp only [Act.put, List.setIfInBounds_toArray, List.set_cons_zero, List.set_cons_succ, i64_w, i32_w]
        rfl
      refine pure_ (i := 2) (N := some 25) (v := ?_) (a' := ?_) #[true, false, true, false, false, false, false, false, false, false, false, false] rfl rfl (any_of HT_.out (by kernel_rfl)) (fun _ _ _ h => h) (Or.inl ⟨by rfl, ?_⟩) ?_ ?_
      rotate_left
      · intro w'
        go_simp
        with_reducible rfl
      rotate_left
      · simp only [Act.put, List.setIfInBounds_toArray, List.set_cons_zero, List.set_cons_succ, i64_w, i32_w]
        rfl
      refine pure_ (i := 3) (N := some 26) (v := ?_) (a' := ?_) #[true, false, true, true, false, false, false, false, false, false, false, false] rfl rfl (any_of HT_.out (by kernel_rfl)) (fun _ _ _ h => h) (Or.inl ⟨by rfl, ?_⟩) ?_ ?_
      rotate_left
      · intro w'
        go_simp
        with_reducible rfl
      rotate_left
      · simp only [Act.put, List.setIfInBounds_toArray, List.set_cons_zero, List.set_cons_succ, i64_w, i32_w]
        rfl
      refine pure_ (i := 6) (N := some 29) (v := ?_) (a' := ?_) #[true, false, true, true, false, false, true, false, false, false, false, false] rfl rfl (any_of HT_.out (by kernel_rfl)) (fun _ _ _ h => h) (Or.inl ⟨by rfl, ?_⟩) ?_ ?_
      rotate_left
      · intro w'
        go_simp
        with_reducible rfl
      rotate_left
      · simp only [Act.put, List.setIfInBounds_toArray, List.set_cons_zero, List.set_cons_succ, i64_w, i32_w]
        rfl
      refine pure_ (i := 7) (N := some 30) (v := ?_) (a' := ?_) #[true, false, true, true, false, false, true, true, false, false, false, false] rfl rfl (any_of HT_.out (by kernel_rfl)) (fun _ _ _ h => h) (Or.inl ⟨by rfl, ?_⟩) ?_ ?_
      rotate_left
      · intro w'
        go_simp
        with_reducible rfl
      rotate_left
      · simp only [Act.put, List.setIfInBounds_toArray, List.set_cons_zero, List.set_cons_succ, i64_w, i32_w]
        rfl
      refine pure_ (i := 8) (N := some 31) (v := ?_) (a' := ?_) #[true, false, true, true, false, false, true, true, true, false, false, false] rfl rfl (any_of HT_.out (by kernel_rfl)) (fun _ _ _ h => h) (Or.inl ⟨by rfl, ?_⟩) ?_ ?_
      rotate_left
      · intro w'
        go_simp
        with_reducible rfl
      rotate_left
      · simp only [Act.put, List.setIfInBounds_toArray, List.set_cons_zero, List.set_cons_succ, i64_w, i32_w]
        rfl
      refine take_ (i := 1) (N := some 24) (v := ?_) (a' := ?_) #[true, true, true, true, false, false, true, true, true, false, false, false] rfl rfl (take_ofW HT_.out HW_.out (by kernel_rfl)) (fun _ _ _ h => h) (Or.inl ⟨by rfl, ?_⟩) hHeld ?_ ?_
      rotate_left
      · rintro w' ⟨s0, s1, s2⟩
        go_simp
        with_reducible rfl
      rotate_left
      · simp only [Act.put, List.setIfInBounds_toArray, List.set_cons_zero, List.set_cons_succ, i64_w, i32_w]
        rfl
      refine pure_ (i := 4) (N := some 27) (v := ?_) (a' := ?_) #[true, true, true, true, true, false, true, true, true, false, false, false] rfl rfl (any_of HT_.out (by kernel_rfl)) (fun _ _ _ h => h) (Or.inl ⟨by rfl, ?_⟩) ?_ ?_
      rotate_left
      · intro w'
        go_simp
        with_reducible rfl
      rotate_left
      · simp only [Act.put, List.setIfInBounds_toArray, List.set_cons_zero, List.set_cons_succ, i64_w, i32_w]
        rfl
      refine take_ (i := 5) (N := some 28) (v := ?_) (a' := ?_) #[true, true, true, true, true, true, true, true, true, false, false, false] rfl rfl (take_ofW HT_.out HW_.out (by kernel_rfl)) (fun _ _ _ h => h) (Or.inl ⟨by rfl, ?_⟩) hHeld ?_ ?_
      rotate_left
      · rintro w' ⟨s0, s1, s2⟩
        go_simp
        with_reducible rfl
      rotate_left
      · simp only [Act.put, List.setIfInBounds_toArray, List.set_cons_zero, List.set_cons_succ, i64_w, i32_w]
        rfl
      refine pure_ (i := 9) (N := some 32) (v := ?_) (a' := ?_) #[true, true, true, true, true, true, true, true, true, true, false, false] rfl rfl (any_of HT_.out (by kernel_rfl)) (fun _ _ _ h => h) (Or.inl ⟨by rfl, ?_⟩) ?_ ?_
      rotate_left
      · intro w'
        go_simp
        with_reducible rfl
      rotate_left
      · simp only [Act.put, List.setIfInBounds_toArray, List.set_cons_zero, List.set_cons_succ, i64_w, i32_w]
        rfl
      refine pure_ (i := 10) (N := some 33) (v := ?_) (a' := ?_) #[true, true, true, true, true, true, true, true, true, true, true, false] rfl rfl (any_of HT_.out (by kernel_rfl)) (fun _ _ _ h => h) (Or.inl ⟨by rfl, ?_⟩) ?_ ?_
      rotate_left
      · intro w'
        go_simp
        with_reducible rfl
      rotate_left
      · simp only [Act.put, List.setIfInBounds_toArray, List.set_cons_zero, List.set_cons_succ, i64_w, i32_w]
        rfl
      refine last_ (i := 11) (N := none) #[true, true, true, true, true, true, true, true, true, true, true, true] rfl rfl (one_of HT_.out (by kernel_rfl)) (by decide) (fun K hK => ?_)
      refine skip_ (w1 := ?_) (by rfl) rfl ?_ ?_
      rotate_left
      · go_simp
        rfl
      refine hK.out _ _ ?_
      clear hK K
      refine done_ (done_of HT_.out (by kernel_rfl)) ?_
      have n0_ : Aside0 (Kd.R (Kd.int .u8) 5 (w30.setCell ⟨go12, ((ji7) : Int).toNat, none⟩ (.int .u8 (Go.bits .xor .u8 (rd t26003 (ji7)) (ji11)))) w.heap.size (fun k_ => some k_ ≠ (.slice Ao22 t26006.length co22 : Value).ownBlock) (.slice (some ⟨go12, 0, none⟩) t26003.length co23) y26011) := ⟨Kd.R_ext HQ31.out⟩
      have n1_ : Aside0 (Kd.R (Kd.int .u8) 5 (w30.setCell ⟨go12, ((ji7) : Int).toNat, none⟩ (.int .u8 (Go.bits .xor .u8 (rd t26003 (ji7)) (ji11)))) w.heap.size (fun k_ => some k_ ≠ (.slice (some ⟨go12, 0, none⟩) t26003.length co23 : Value).ownBlock) (.slice Ao22 t26006.length co22) t26006) := ⟨Kd.R_ext (Kd.R_mono (Kd.R_far (p := ⟨go12, ((ji7) : Int).toNat, none⟩) (Kd.R_mono HO26008.out (fun k_ hk => (⟨hk, fun e_ => hk (by rw [e_]; rfl)⟩ : _ ∧ k_ ≠ go12))) (fun _ hk => hk.2) (.int .u8 (Go.bits .xor .u8 (rd t26003 (ji7)) (ji11)))) (fun _ hk => hk.1))⟩
      have n2_ : Aside0 ((w30.setCell ⟨go12, ((ji7) : Int).toNat, none⟩ (.int .u8 (Go.bits .xor .u8 (rd t26003 (ji7)) (ji11)))).heap[gb26001]? = some (.cells #[.slice A0_0 l0_0.length c0_0, .slice A0_1 l0_1.length c0_1] 24 (0, 0))) := ⟨by (with_reducible repeat (first | refine blk_drewN ?_ _ | refine blk_drew ?_ | refine blk_alloc ?_ _)); refine blk_far ?_ (by have h_ := Kd.R_ne HO26005.out BK26001.out (by decide); intro e_; exact h_ (by rw [e_]; rfl)) _; exact blk_ext BK26001.out⟩
      have n3_ : Aside0 ((w30.setCell ⟨go12, ((ji7) : Int).toNat, none⟩ (.int .u8 (Go.bits .xor .u8 (rd t26003 (ji7)) (ji11)))).heap[gb26002]? = some (.cells #[.slice none 0 0, .slice none 0 0] 24 (0, 0))) := ⟨by (with_reducible repeat (first | refine blk_drewN ?_ _ | refine blk_drew ?_ | refine blk_alloc ?_ _)); refine blk_far ?_ (by have h_ := Kd.R_ne HO26005.out BK26002.out (by decide); intro e_; exact h_ (by rw [e_]; rfl)) _; exact blk_ext BK26002.out⟩
      have n4_ : Aside0 ((w30.setCell ⟨go12, ((ji7) : Int).toNat, none⟩ (.int .u8 (Go.bits .xor .u8 (rd t26003 (ji7)) (ji11)))).heap[gb26009]? = some (.cells #[.slice (some ⟨go12, 0, none⟩) t26003.length co23, .slice Ao22 t26006.length co22] 24 (0, 0))) := ⟨by (with_reducible repeat (first | refine blk_drewN ?_ _ | refine blk_drew ?_ | refine blk_alloc ?_ _)); refine blk_far ?_ (by have h_ := Kd.R_ne HO26005.out BK26009.out (by decide); intro e_; exact h_ (by rw [e_]; rfl)) _; exact blk_ext BK26009.out⟩
      have n5_ : Aside0 (Below w.heap.size w (w30.setCell ⟨go12, ((ji7) : Int).toNat, none⟩ (.int .u8 (Go.bits .xor .u8 (rd t26003 (ji7)) (ji11))))) := ⟨by repeat (first | (with_reducible first | exact HB.out | apply bA | apply bN | apply b1 | refine bS ?_ GB12.out | refine bS ?_ GE26001.out | refine bS ?_ GE26002.out | refine bS ?_ GE26009.out) | exact HB.out)⟩
      (try clear HO26005)
      (try clear HO26008)
      (try clear BK26001)
      (try clear BK26002)
      (try clear BK26009)
      (try clear HB)
      generalize (w30.setCell ⟨go12, ((ji7) : Int).toNat, none⟩ (.int .u8 (Go.bits .xor .u8 (rd t26003 (ji7)) (ji11)))) = w32 at n0_ n1_ n2_ n3_ n4_ n5_ ⊢
      have HO26005 := n0_
      have HO26008 := n1_
      have BK26001 := n2_
      have BK26002 := n3_
      have BK26009 := n4_
      have HB := n5_
      clear n0_ n1_ n2_ n3_ n4_ n5_
      have hcz33_0 : w32.cell? ⟨gb26009, 0, none⟩ = some (.slice (some ⟨go12, 0, none⟩) t26003.length co23) := (blk_cell BK26009.out 0).trans rfl
      have hcz33_1 : w32.cell? ⟨gb26009, 1, none⟩ = some (.slice Ao22 t26006.length co22) := (blk_cell BK26009.out 1).trans rfl
      have hfz33_0 := blk_frozen BK26009.out 0
      have hfz33_1 := blk_frozen BK26009.out 1
      have hnb34 := NB26002_26001.out
      have hnc34 := NB26001_26002.out
      have hcz35_0 : w32.cell? ⟨gb26002, 0, none⟩ = some (.slice none 0 0) := (blk_cell BK26002.out 0).trans rfl
      have hcz35_1 : w32.cell? ⟨gb26002, 1, none⟩ = some (.slice none 0 0) := (blk_cell BK26002.out 1).trans rfl
      have hfz35_0 := blk_frozen BK26002.out 0
      have hfz35_1 := blk_frozen BK26002.out 1
      try go_wp2
      refine bodyPost_ret (results_cell_row rfl _ _ gb26002 24 #[.slice (some ⟨go12, 0, none⟩) t26003.length co23, .slice Ao22 t26006.length co22] (0, 0) _ rfl (by (with_reducible repeat (first | refine blk_drewN ?_ _ | refine blk_drew ?_ | refine blk_alloc ?_ _)); refine blk_put (cs := #[.slice (some ⟨go12, 0, none⟩) t26003.length co23, .slice none 0 0]) ?_ 1 _ rfl; (with_reducible repeat (first | refine blk_drewN ?_ _ | refine blk_drew ?_ | refine blk_alloc ?_ _)); refine blk_put (cs := #[.slice none 0 0, .slice none 0 0]) ?_ 0 _ rfl; exact blk_ext BK26002.out) Try.underlying24 rfl (by kernel_rfl)) rfl ?_
      exact ⟨_, _, by first | rfl | (simp [errW_none, errW_some] <;> rfl) | (simp only [← hji7, ← hji9, ← hji11]; first | rfl | (simp [errW_none, errW_some] <;> rfl)) | (simp [*, errW_none, errW_some] <;> rfl), Kd.R_ext (Kd.R_mono (Kd.R_far (p := ⟨gb26002, 1, none⟩) (Kd.R_far (p := ⟨gb26002, 0, none⟩) (Kd.R_types HO26005.out BK26002.out (by decide)) (fun _ hk => hk.2) (.slice (some ⟨go12, 0, none⟩) t26003.length co23)) (fun _ hk => hk.2) (.slice Ao22 t26006.length co22)) (fun _ hk => hk.1)), Kd.R_ext (Kd.R_mono (Kd.R_far (p := ⟨gb26002, 1, none⟩) (Kd.R_far (p := ⟨gb26002, 0, none⟩) (Kd.R_types HO26008.out BK26002.out (by decide)) (fun _ hk => hk.2) (.slice (some ⟨go12, 0, none⟩) t26003.length co23)) (fun _ hk => hk.2) (.slice Ao22 t26006.length co22)) (fun _ hk => hk.1)), below_extB HB.out⟩
    · rw [if_neg c6] at H
      have c6b0 : decide ((wrap64 (Int.tdiv a1 8)) < (t26003.length : Int)) = false := decide_eq_false c6
      clear c6
      simp only [Option.some.injEq, Prod.mk.injEq] at H
      obtain ⟨rfl, rfl⟩ := H
      go_enter Try.func26, Try.ntmps26
      try go_wp2_with (first | ((with_reducible refine gate_dst (N := 2) rfl ?_); (try (refine gate_guard (by rfl) ?_; dsimp only)); refine box_event ?hg (N := 2) ?hd (cs := #[.slice A0_0 l0_0.length c0_0, .slice A0_1 l0_1.length c0_1]) (t := 24) ?hr ?_; (case hd => rfl); (case hg => rfl); (case hr => first | (go_simp; done) | (go_simp; rfl)); intro gb26001 hg w36 hbox hb; have n1_ := Aside0.mk (hbox); have n2_ := Aside0.mk ((by rw [hg]; exact (below_size (below_ext HB.out)) : w.heap.size ≤ gb26001)); have n3_ := Aside0.mk ((by rw [hg]; exact (below_size (below_ext HB.out)) : w.heap.size ≤ gb26001)); have BK26001 := n1_; have GW26001 := n2_; have GE26001 := n3_; have GI26001 := GE_.mk GE26001.out; replace HB := mvH HB hb; clear n1_ n2_ n3_; clear hb hbox hg) | ((with_reducible refine gate_dst (N := 4) rfl ?_); (try (refine gate_guard (by rfl) ?_; dsimp only)); refine box_event ?hg (N := 4) ?hd (cs := #[.slice none 0 0, .slice none 0 0]) (t := 24) ?hr ?_; (case hd => rfl); (case hg => rfl); (case hr => first | (go_simp; done) | (go_simp; rfl)); intro gb26002 hg w37 hbox hb; have n2_ := Aside0.mk (hbox); have n3_ := Aside0.mk ((by rw [hg]; exact (below_size (below_extB HB.out)) : w.heap.size ≤ gb26002)); have n4_ := Aside0.mk ((by rw [hg]; exact (below_size (below_extB HB.out)) : w.heap.size ≤ gb26002)); have n5_ := Aside0.mk ((by rw [hg]; exact Nat.ne_of_lt (blk_lt (blk_ext BK26001.out)) : gb26001 ≠ gb26002)); have n6_ := Aside0.mk ((by rw [hg]; exact Nat.ne_of_gt (blk_lt (blk_ext BK26001.out)) : gb26002 ≠ gb26001)); have BK26002 := n2_; have GW26002 := n3_; have GE26002 := n4_; have GI26002 := GE_.mk GE26002.out; have NB26001_26002 := n5_; have NI26001_26002 := NE_.mk NB26001_26002.out; have NB26002_26001 := n6_; have NI26002_26001 := NE_.mk NB26002_26001.out; replace BK26001 := mvB BK26001 hb; replace HB := mvH HB hb; clear n2_ n3_ n4_ n5_ n6_; clear hb hbox hg))
      have n0_ := Aside0.mk (blk_drew BK26001.out)
      have n1_ := Aside0.mk (blk_drew BK26002.out)
      have n2_ := Aside0.mk (below_drew1 HB.out)
      clear BK26001
      clear BK26002
      clear HB
      have BK26001 := n0_
      have BK26002 := n1_
      have HB := n2_
      clear n0_ n1_ n2_
      refine start_ (n := 9) (S := fun w' => w'.cell? ⟨gb26001, 0, none⟩ = some (.slice A0_0 l0_0.length c0_0) ∧ w'.cell? ⟨gb26001, 1, none⟩ = some (.slice A0_1 l0_1.length c0_1)) (ds := []) #[false, false, false, false, false, false, false, false, false] (by kernel_rfl) rfl rfl ⟨(blk_cell BK26001.out 0).trans rfl, (blk_cell BK26001.out 1).trans rfl⟩ (fun hHeld => ?_); refine with_tabW disk_Flip.tab1 disk_Flip.bits1 (fun HT_ HW_ => ?_)
      generalize w37.drew = w38 at BK26001 BK26002 HB hHeld ⊢
      refine pure_ (i := 0) (N := some 6) (v := ?_) (a' := ?_) #[true, false, false, false, false, false, false, false, false] rfl rfl (any_of HT_.out (by kernel_rfl)) (fun _ _ _ h => h) (Or.inl ⟨by rfl, ?_⟩) ?_ ?_
      rotate_left
      · intro w'
        go_simp
        with_reducible rfl
      rotate_left
      · simp only [Act.put, List.setIfInBounds_toArray, List.set_cons_zero, List.set_cons_succ, i64_w, i32_w]
        rfl
      refine pure_ (i := 3) (N := some 9) (v := ?_) (a' := ?_) #[true, false, false, true, false, false, false, false, false] rfl rfl (any_of HT_.out (by kernel_rfl)) (fun _ _ _ h => h) (Or.inl ⟨by rfl, ?_⟩) ?_ ?_
      rotate_left
      · intro w'
        go_simp
        with_reducible rfl
      rotate_left
      · simp only [Act.put, List.setIfInBounds_toArray, List.set_cons_zero, List.set_cons_succ, i64_w, i32_w]
        rfl
      refine take_ (i := 1) (N := some 7) (v := ?_) (a' := ?_) #[true, true, false, true, false, false, false, false, false] rfl rfl (take_ofW HT_.out HW_.out (by kernel_rfl)) (fun _ _ _ h => h) (Or.inl ⟨by rfl, ?_⟩) hHeld ?_ ?_
      rotate_left
      · rintro w' ⟨s0, s1⟩
        go_simp
        with_reducible rfl
      rotate_left
      · simp only [Act.put, List.setIfInBounds_toArray, List.set_cons_zero, List.set_cons_succ, i64_w, i32_w]
        rfl
      refine take_ (i := 4) (N := some 10) (v := ?_) (a' := ?_) #[true, true, false, true, true, false, false, false, false] rfl rfl (take_ofW HT_.out HW_.out (by kernel_rfl)) (fun _ _ _ h => h) (Or.inl ⟨by rfl, ?_⟩) hHeld ?_ ?_
      rotate_left
      · rintro w' ⟨s0, s1⟩
        go_simp
        with_reducible rfl
      rotate_left
      · simp only [Act.put, List.setIfInBounds_toArray, List.set_cons_zero, List.set_cons_succ, i64_w, i32_w]
        rfl
      refine join_ (σ := Value × Value × Nat) 1 #[true, true, true, true, true, true, true, true, false] (fun s_ => [(8, s_.1), (11, s_.2.1), (5, .pointer (some ⟨s_.2.2, 0, none⟩)), (12, .agg #[s_.1, s_.2.1])]) (fun s_ w' => (w'.cell? ⟨gb26001, 0, none⟩ = some (.slice A0_0 l0_0.length c0_0) ∧ w'.cell? ⟨gb26001, 1, none⟩ = some (.slice A0_1 l0_1.length c0_1)) ∧ (Kd.R (Kd.int .u8) 5 w' w.heap.size (fun k_ => some k_ ≠ (s_.2.1 : Value).ownBlock) s_.1 t26003) ∧ (Kd.R (Kd.int .u8) 5 w' w.heap.size (fun k_ => some k_ ≠ (s_.1 : Value).ownBlock) s_.2.1 t26006) ∧ (w'.heap[gb26001]? = some (.cells #[.slice A0_0 l0_0.length c0_0, .slice A0_1 l0_1.length c0_1] 24 (0, 0))) ∧ (w'.heap[gb26002]? = some (.cells #[.slice none 0 0, .slice none 0 0] 24 (0, 0))) ∧ (w'.heap[s_.2.2]? = some (.cells #[.slice none 0 0, .slice none 0 0] 24 (0, 0))) ∧ (w.heap.size ≤ s_.2.2) ∧ (w.heap.size ≤ s_.2.2) ∧ (gb26001 ≠ s_.2.2) ∧ (s_.2.2 ≠ gb26001) ∧ (gb26002 ≠ s_.2.2) ∧ (s_.2.2 ≠ gb26002) ∧ (Below w.heap.size w w')) ?_ ?_
      rotate_left
      · intro hCont
        refine two_ (i := 2) (j := 7) (Ni := some 8) (Nj := some 5) #[true, true, true, true, true, false, false, false, false] #[true, true, false, true, true, false, false, true, false] rfl rfl rfl rfl (two_of HT_.out (by kernel_rfl)) (by decide) (by decide) (fun K hK => ?_) (fun K hK => ?_)
        · skip
          refine goes_ Try.func64 (by kernel_rfl) rfl #[.slice A0_0 l0_0.length c0_0] (by rfl) rfl rfl (by (try simp only [List.map_toArray, List.map_cons, List.map_nil]); first | done | rfl | (simp only [List.length_drop, List.length_take]; rfl)) ?_
          with_reducible refine (slices_Clone_byte_byte.calls _ _ l0_0 t26003 _ ?side1 ?side2 A3.out).mono ?_
          (case side1 => repeat (first | exact (Kd.C_below HR0_0.out HB.out) | (with_reducible refine Kd.C_alloc ?_ _) | (with_reducible refine Kd.C_drewN ?_ _) | (with_reducible refine Kd.C_drew ?_)))
          (case side2 => exact HC0_0.out)
          rintro e w39 ⟨v26004, rfl, ho0, hb⟩
          refine ⟨_, rfl, ?_⟩
          have n0_ := Aside0.mk (Kd.R_lower ho0 (below_size (below_extB HB.out)))
          have HO26005 := n0_
          replace BK26001 := mvB BK26001 hb
          replace BK26002 := mvB BK26002 hb
          replace HB := mvH HB hb
          clear n0_
          (try clear hb)
          (try clear hb2)
          (try clear hk)
          (try clear hi)
          (try clear ho0)
          refine hK.out _ _ ⟨(blk_cell BK26001.out 0).trans rfl, (blk_cell BK26001.out 1).trans rfl⟩ (fun hHeld => ?_)
          clear hK K
          refine norm_ (a' := ?_) ?_ ?_
          rotate_left
          · show Act.put _ (some 8) _ = _
            simp only [Act.put, List.setIfInBounds_toArray, List.set_cons_zero, List.set_cons_succ, i64_w, i32_w]
            rfl
          refine two_ (i := 5) (j := 7) (Ni := some 11) (Nj := some 5) #[true, true, true, true, true, true, false, false, false] #[true, true, true, true, true, false, false, true, false] rfl rfl rfl rfl (two_of HT_.out (by kernel_rfl)) (by decide) (by decide) (fun K hK => ?_) (fun K hK => ?_)
          · skip
            refine goes_ Try.func64 (by kernel_rfl) rfl #[.slice A0_1 l0_1.length c0_1] (by rfl) rfl rfl (by (try simp only [List.map_toArray, List.map_cons, List.map_nil]); first | done | rfl | (simp only [List.length_drop, List.length_take]; rfl)) ?_
            with_reducible refine (slices_Clone_byte_byte.calls _ _ l0_1 t26006 _ ?side1 ?side2 A4.out).mono ?_
            (case side1 => repeat (first | exact (Kd.C_below HR0_1.out HB.out) | (with_reducible refine Kd.C_alloc ?_ _) | (with_reducible refine Kd.C_drewN ?_ _) | (with_reducible refine Kd.C_drew ?_)))
            (case side2 => exact HC0_1.out)
            rintro e w40 ⟨v26007, rfl, ho0, hb⟩
            refine ⟨_, rfl, ?_⟩
            have n1_ := Aside0.mk (Kd.R_lower (Kd.R_new' ho0 (Kd.R_lt (Kd.R_ext HO26005.out))) (below_size (below_extB HB.out)))
            have HO26008 := n1_
            replace HO26005 := apR HO26005 hb (Kd.R_base ho0)
            replace BK26001 := mvB BK26001 hb
            replace BK26002 := mvB BK26002 hb
            replace HB := mvH HB hb
            clear n1_
            (try clear hb)
            (try clear hb2)
            (try clear hk)
            (try clear hi)
            (try clear ho0)
            obtain ⟨Ao41, co41, eo41⟩ := Kd.R_slice HO26008.out
            (first | subst eo41 | (injection eo41 with f1_ f2_ f3_; have f4_ := f1_.symm; have f5_ := f3_.symm; clear f1_ f2_ f3_; subst f4_; subst f5_))
            obtain ⟨Ao42, co42, eo42⟩ := Kd.R_slice HO26005.out
            (first | subst eo42 | (injection eo42 with f1_ f2_ f3_; have f4_ := f1_.symm; have f5_ := f3_.symm; clear f1_ f2_ f3_; subst f4_; subst f5_))
            refine hK.out _ _ ⟨(blk_cell BK26001.out 0).trans rfl, (blk_cell BK26001.out 1).trans rfl⟩ (fun hHeld => ?_)
            clear hK K
            refine norm_ (a' := ?_) ?_ ?_
            rotate_left
            · show Act.put _ (some 11) _ = _
              simp only [Act.put, List.setIfInBounds_toArray, List.set_cons_zero, List.set_cons_succ, i64_w, i32_w]
              rfl
            refine pure_ (i := 6) (N := some 12) (v := ?_) (a' := ?_) #[true, true, true, true, true, true, true, false, false] rfl rfl (any_of HT_.out (by kernel_rfl)) (fun _ _ _ h => h) (Or.inl ⟨by rfl, ?_⟩) ?_ ?_
            rotate_left
            · intro w'
              go_simp
              with_reducible rfl
            rotate_left
            · simp only [Act.put, List.setIfInBounds_toArray, List.set_cons_zero, List.set_cons_succ, i64_w, i32_w]
              rfl
            refine one_ (i := 7) (N := some 5) #[true, true, true, true, true, true, true, true, false] rfl rfl (one_of HT_.out (by kernel_rfl)) (by decide) (fun K hK => ?_)
            refine box_step ?hg (N := 5) ?hd (cs := #[.slice none 0 0, .slice none 0 0]) (t := 24) ?hr ?_; (case hd => rfl); (case hg => rfl); (case hr => first | (go_simp; done) | (go_simp; rfl))
            intro gb26009 hg w43 hbox hb
            have n5_ := Aside0.mk (hbox)
            have n6_ := Aside0.mk ((by rw [hg]; exact (below_size (below_extB HB.out)) : w.heap.size ≤ gb26009))
            have n7_ := Aside0.mk ((by rw [hg]; exact (below_size (below_extB HB.out)) : w.heap.size ≤ gb26009))
            have n8_ := Aside0.mk ((by rw [hg]; exact Nat.ne_of_lt (blk_lt (blk_ext BK26001.out)) : gb26001 ≠ gb26009))
            have n9_ := Aside0.mk ((by rw [hg]; exact Nat.ne_of_gt (blk_lt (blk_ext BK26001.out)) : gb26009 ≠ gb26001))
            have n10_ := Aside0.mk ((by rw [hg]; exact Nat.ne_of_lt (blk_lt (blk_ext BK26002.out)) : gb26002 ≠ gb26009))
            have n11_ := Aside0.mk ((by rw [hg]; exact Nat.ne_of_gt (blk_lt (blk_ext BK26002.out)) : gb26009 ≠ gb26002))
            have BK26009 := n5_
            have GW26009 := n6_
            have GE26009 := n7_; have GI26009 := GE_.mk GE26009.out
            have NB26001_26009 := n8_; have NI26001_26009 := NE_.mk NB26001_26009.out
            have NB26009_26001 := n9_; have NI26009_26001 := NE_.mk NB26009_26001.out
            have NB26002_26009 := n10_; have NI26002_26009 := NE_.mk NB26002_26009.out
            have NB26009_26002 := n11_; have NI26009_26002 := NE_.mk NB26009_26002.out
            replace HO26005 := mvR HO26005 hb
            replace HO26008 := mvR HO26008 hb
            replace BK26001 := mvB BK26001 hb
            replace BK26002 := mvB BK26002 hb
            replace HB := mvH HB hb
            clear n5_ n6_ n7_ n8_ n9_ n10_ n11_
            clear hb hbox hg
            refine hK.out _ _ ⟨(blk_cell BK26001.out 0).trans rfl, (blk_cell BK26001.out 1).trans rfl⟩ (fun hHeld => ?_)
            clear hK K
            refine norm_ (a' := ?_) ?_ ?_
            rotate_left
            · show Act.put _ (some 5) _ = _
              simp only [Act.put, List.setIfInBounds_toArray, List.set_cons_zero, List.set_cons_succ, i64_w, i32_w]
              rfl
            exact norm_ (by simp only [putAll, Act.put, List.setIfInBounds_toArray, List.set_cons_zero, List.set_cons_succ]) (hCont (.slice Ao42 t26003.length co42, .slice Ao41 t26006.length co41, gb26009) _ ⟨hHeld, (Kd.R_ext (Kd.R_mono HO26005.out (fun _ hk => hk.2))), (Kd.R_ext (Kd.R_mono HO26008.out (fun _ hk => hk.2))), (blk_ext BK26001.out), (blk_ext BK26002.out), (blk_ext BK26009.out), GW26009.out, GE26009.out, NB26001_26009.out, NB26009_26001.out, NB26002_26009.out, NB26009_26002.out, (below_extB HB.out)⟩)
          · skip
            refine box_step ?hg (N := 5) ?hd (cs := #[.slice none 0 0, .slice none 0 0]) (t := 24) ?hr ?_; (case hd => rfl); (case hg => rfl); (case hr => first | (go_simp; done) | (go_simp; rfl))
            intro gb26009 hg w40 hbox hb
            have n4_ := Aside0.mk (hbox)
            have n5_ := Aside0.mk ((by rw [hg]; exact (below_size (below_extB HB.out)) : w.heap.size ≤ gb26009))
            have n6_ := Aside0.mk ((by rw [hg]; exact (below_size (below_extB HB.out)) : w.heap.size ≤ gb26009))
            have n7_ := Aside0.mk ((by rw [hg]; exact Nat.ne_of_lt (blk_lt (blk_ext BK26001.out)) : gb26001 ≠ gb26009))
            have n8_ := Aside0.mk ((by rw [hg]; exact Nat.ne_of_gt (blk_lt (blk_ext BK26001.out)) : gb26009 ≠ gb26001))
            have n9_ := Aside0.mk ((by rw [hg]; exact Nat.ne_of_lt (blk_lt (blk_ext BK26002.out)) : gb26002 ≠ gb26009))
            have n10_ := Aside0.mk ((by rw [hg]; exact Nat.ne_of_gt (blk_lt (blk_ext BK26002.out)) : gb26009 ≠ gb26002))
            have BK26009 := n4_
            have GW26009 := n5_
            have GE26009 := n6_; have GI26009 := GE_.mk GE26009.out
            have NB26001_26009 := n7_; have NI26001_26009 := NE_.mk NB26001_26009.out
            have NB26009_26001 := n8_; have NI26009_26001 := NE_.mk NB26009_26001.out
            have NB26002_26009 := n9_; have NI26002_26009 := NE_.mk NB26002_26009.out
            have NB26009_26002 := n10_; have NI26009_26002 := NE_.mk NB26009_26002.out
            replace HO26005 := mvR HO26005 hb
            replace BK26001 := mvB BK26001 hb
            replace BK26002 := mvB BK26002 hb
            replace HB := mvH HB hb
            clear n4_ n5_ n6_ n7_ n8_ n9_ n10_
            clear hb hbox hg
            refine hK.out _ _ ⟨(blk_cell BK26001.out 0).trans rfl, (blk_cell BK26001.out 1).trans rfl⟩ (fun hHeld => ?_)
            clear hK K
            refine norm_ (a' := ?_) ?_ ?_
            rotate_left
            · show Act.put _ (some 5) _ = _
              simp only [Act.put, List.setIfInBounds_toArray, List.set_cons_zero, List.set_cons_succ, i64_w, i32_w]
              rfl
            refine one_ (i := 5) (N := some 11) #[true, true, true, true, true, true, false, true, false] rfl rfl (one_of HT_.out (by kernel_rfl)) (by decide) (fun K hK => ?_)
            refine goes_ Try.func64 (by kernel_rfl) rfl #[.slice A0_1 l0_1.length c0_1] (by rfl) rfl rfl (by (try simp only [List.map_toArray, List.map_cons, List.map_nil]); first | done | rfl | (simp only [List.length_drop, List.length_take]; rfl)) ?_
            with_reducible refine (slices_Clone_byte_byte.calls _ _ l0_1 t26006 _ ?side1 ?side2 A4.out).mono ?_
            (case side1 => repeat (first | exact (Kd.C_below HR0_1.out HB.out) | (with_reducible refine Kd.C_alloc ?_ _) | (with_reducible refine Kd.C_drewN ?_ _) | (with_reducible refine Kd.C_drew ?_)))
            (case side2 => exact HC0_1.out)
            rintro e w41 ⟨v26007, rfl, ho0, hb⟩
            refine ⟨_, rfl, ?_⟩
            have n1_ := Aside0.mk (Kd.R_lower (Kd.R_new' ho0 (Kd.R_lt (Kd.R_ext HO26005.out))) (below_size (below_extB HB.out)))
            have HO26008 := n1_
            replace HO26005 := apR HO26005 hb (Kd.R_base ho0)
            replace BK26001 := mvB BK26001 hb
            replace BK26002 := mvB BK26002 hb
            replace BK26009 := mvB BK26009 hb
            replace HB := mvH HB hb
            clear n1_
            (try clear hb)
            (try clear hb2)
            (try clear hk)
            (try clear hi)
            (try clear ho0)
            obtain ⟨Ao42, co42, eo42⟩ := Kd.R_slice HO26008.out
            (first | subst eo42 | (injection eo42 with f1_ f2_ f3_; have f4_ := f1_.symm; have f5_ := f3_.symm; clear f1_ f2_ f3_; subst f4_; subst f5_))
            obtain ⟨Ao43, co43, eo43⟩ := Kd.R_slice HO26005.out
            (first | subst eo43 | (injection eo43 with f1_ f2_ f3_; have f4_ := f1_.symm; have f5_ := f3_.symm; clear f1_ f2_ f3_; subst f4_; subst f5_))
            refine hK.out _ _ ⟨(blk_cell BK26001.out 0).trans rfl, (blk_cell BK26001.out 1).trans rfl⟩ (fun hHeld => ?_)
            clear hK K
            refine norm_ (a' := ?_) ?_ ?_
            rotate_left
            · show Act.put _ (some 11) _ = _
              simp only [Act.put, List.setIfInBounds_toArray, List.set_cons_zero, List.set_cons_succ, i64_w, i32_w]
              rfl
            refine pure_ (i := 6) (N := some 12) (v := ?_) (a' := ?_) #[true, true, true, true, true, true, true, true, false] rfl rfl (any_of HT_.out (by kernel_rfl)) (fun _ _ _ h => h) (Or.inl ⟨by rfl, ?_⟩) ?_ ?_
            rotate_left
            · intro w'
              go_simp
              with_reducible rfl
            rotate_left
            · simp only [Act.put, List.setIfInBounds_toArray, List.set_cons_zero, List.set_cons_succ, i64_w, i32_w]
              rfl
            exact norm_ (by simp only [putAll, Act.put, List.setIfInBounds_toArray, List.set_cons_zero, List.set_cons_succ]) (hCont (.slice Ao43 t26003.length co43, .slice Ao42 t26006.length co42, gb26009) _ ⟨hHeld, (Kd.R_ext (Kd.R_mono HO26005.out (fun _ hk => hk.2))), (Kd.R_ext (Kd.R_mono HO26008.out (fun _ hk => hk.2))), (blk_ext BK26001.out), (blk_ext BK26002.out), (blk_ext BK26009.out), GW26009.out, GE26009.out, NB26001_26009.out, NB26009_26001.out, NB26002_26009.out, NB26009_26002.out, (below_extB HB.out)⟩)
        · skip
          refine box_step ?hg (N := 5) ?hd (cs := #[.slice none 0 0, .slice none 0 0]) (t := 24) ?hr ?_; (case hd => rfl); (case hg => rfl); (case hr => first | (go_simp; done) | (go_simp; rfl))
          intro gb26009 hg w39 hbox hb
          have n3_ := Aside0.mk (hbox)
          have n4_ := Aside0.mk ((by rw [hg]; exact (below_size (below_extB HB.out)) : w.heap.size ≤ gb26009))
          have n5_ := Aside0.mk ((by rw [hg]; exact (below_size (below_extB HB.out)) : w.heap.size ≤ gb26009))
          have n6_ := Aside0.mk ((by rw [hg]; exact Nat.ne_of_lt (blk_lt (blk_ext BK26001.out)) : gb26001 ≠ gb26009))
          have n7_ := Aside0.mk ((by rw [hg]; exact Nat.ne_of_gt (blk_lt (blk_ext BK26001.out)) : gb26009 ≠ gb26001))
          have n8_ := Aside0.mk ((by rw [hg]; exact Nat.ne_of_lt (blk_lt (blk_ext BK26002.out)) : gb26002 ≠ gb26009))
          have n9_ := Aside0.mk ((by rw [hg]; exact Nat.ne_of_gt (blk_lt (blk_ext BK26002.out)) : gb26009 ≠ gb26002))
          have BK26009 := n3_
          have GW26009 := n4_
          have GE26009 := n5_; have GI26009 := GE_.mk GE26009.out
          have NB26001_26009 := n6_; have NI26001_26009 := NE_.mk NB26001_26009.out
          have NB26009_26001 := n7_; have NI26009_26001 := NE_.mk NB26009_26001.out
          have NB26002_26009 := n8_; have NI26002_26009 := NE_.mk NB26002_26009.out
          have NB26009_26002 := n9_; have NI26009_26002 := NE_.mk NB26009_26002.out
          replace BK26001 := mvB BK26001 hb
          replace BK26002 := mvB BK26002 hb
          replace HB := mvH HB hb
          clear n3_ n4_ n5_ n6_ n7_ n8_ n9_
          clear hb hbox hg
          refine hK.out _ _ ⟨(blk_cell BK26001.out 0).trans rfl, (blk_cell BK26001.out 1).trans rfl⟩ (fun hHeld => ?_)
          clear hK K
          refine norm_ (a' := ?_) ?_ ?_
          rotate_left
          · show Act.put _ (some 5) _ = _
            simp only [Act.put, List.setIfInBounds_toArray, List.set_cons_zero, List.set_cons_succ, i64_w, i32_w]
            rfl
          refine one_ (i := 2) (N := some 8) #[true, true, true, true, true, false, false, true, false] rfl rfl (one_of HT_.out (by kernel_rfl)) (by decide) (fun K hK => ?_)
          refine goes_ Try.func64 (by kernel_rfl) rfl #[.slice A0_0 l0_0.length c0_0] (by rfl) rfl rfl (by (try simp only [List.map_toArray, List.map_cons, List.map_nil]); first | done | rfl | (simp only [List.length_drop, List.length_take]; rfl)) ?_
          with_reducible refine (slices_Clone_byte_byte.calls _ _ l0_0 t26003 _ ?side1 ?side2 A3.out).mono ?_
          (case side1 => repeat (first | exact (Kd.C_below HR0_0.out HB.out) | (with_reducible refine Kd.C_alloc ?_ _) | (with_reducible refine Kd.C_drewN ?_ _) | (with_reducible refine Kd.C_drew ?_)))
          (case side2 => exact HC0_0.out)
          rintro e w40 ⟨v26004, rfl, ho0, hb⟩
          refine ⟨_, rfl, ?_⟩
          have n0_ := Aside0.mk (Kd.R_lower ho0 (below_size (below_extB HB.out)))
          have HO26005 := n0_
          replace BK26001 := mvB BK26001 hb
          replace BK26002 := mvB BK26002 hb
          replace BK26009 := mvB BK26009 hb
          replace HB := mvH HB hb
          clear n0_
          (try clear hb)
          (try clear hb2)
          (try clear hk)
          (try clear hi)
          (try clear ho0)
          refine hK.out _ _ ⟨(blk_cell BK26001.out 0).trans rfl, (blk_cell BK26001.out 1).trans rfl⟩ (fun hHeld => ?_)
          clear hK K
          refine norm_ (a' := ?_) ?_ ?_
          rotate_left
          · show Act.put _ (some 8) _ = _
            simp only [Act.put, List.setIfInBounds_toArray, List.set_cons_zero, List.set_cons_succ, i64_w, i32_w]
            rfl
          refine one_ (i := 5) (N := some 11) #[true, true, true, true, true, true, false, true, false] rfl rfl (one_of HT_.out (by kernel_rfl)) (by decide) (fun K hK => ?_)
          refine goes_ Try.func64 (by kernel_rfl) rfl #[.slice A0_1 l0_1.length c0_1] (by rfl) rfl rfl (by (try simp only [List.map_toArray, List.map_cons, List.map_nil]); first | done | rfl | (simp only [List.length_drop, List.length_take]; rfl)) ?_
          with_reducible refine (slices_Clone_byte_byte.calls _ _ l0_1 t26006 _ ?side1 ?side2 A4.out).mono ?_
          (case side1 => repeat (first | exact (Kd.C_below HR0_1.out HB.out) | (with_reducible refine Kd.C_alloc ?_ _) | (with_reducible refine Kd.C_drewN ?_ _) | (with_reducible refine Kd.C_drew ?_)))
          (case side2 => exact HC0_1.out)
          rintro e w41 ⟨v26007, rfl, ho0, hb⟩
          refine ⟨_, rfl, ?_⟩
          have n1_ := Aside0.mk (Kd.R_lower (Kd.R_new' ho0 (Kd.R_lt (Kd.R_ext HO26005.out))) (below_size (below_extB HB.out)))
          have HO26008 := n1_
          replace HO26005 := apR HO26005 hb (Kd.R_base ho0)
          replace BK26001 := mvB BK26001 hb
          replace BK26002 := mvB BK26002 hb
          replace BK26009 := mvB BK26009 hb
          replace HB := mvH HB hb
          clear n1_
          (try clear hb)
          (try clear hb2)
          (try clear hk)
          (try clear hi)
          (try clear ho0)
          obtain ⟨Ao42, co42, eo42⟩ := Kd.R_slice HO26008.out
          (first | subst eo42 | (injection eo42 with f1_ f2_ f3_; have f4_ := f1_.symm; have f5_ := f3_.symm; clear f1_ f2_ f3_; subst f4_; subst f5_))
          obtain ⟨Ao43, co43, eo43⟩ := Kd.R_slice HO26005.out
          (first | subst eo43 | (injection eo43 with f1_ f2_ f3_; have f4_ := f1_.symm; have f5_ := f3_.symm; clear f1_ f2_ f3_; subst f4_; subst f5_))
          refine hK.out _ _ ⟨(blk_cell BK26001.out 0).trans rfl, (blk_cell BK26001.out 1).trans rfl⟩ (fun hHeld => ?_)
          clear hK K
          refine norm_ (a' := ?_) ?_ ?_
          rotate_left
          · show Act.put _ (some 11) _ = _
            simp only [Act.put, List.setIfInBounds_toArray, List.set_cons_zero, List.set_cons_succ, i64_w, i32_w]
            rfl
          refine pure_ (i := 6) (N := some 12) (v := ?_) (a' := ?_) #[true, true, true, true, true, true, true, true, false] rfl rfl (any_of HT_.out (by kernel_rfl)) (fun _ _ _ h => h) (Or.inl ⟨by rfl, ?_⟩) ?_ ?_
          rotate_left
          · intro w'
            go_simp
            with_reducible rfl
          rotate_left
          · simp only [Act.put, List.setIfInBounds_toArray, List.set_cons_zero, List.set_cons_succ, i64_w, i32_w]
            rfl
          exact norm_ (by simp only [putAll, Act.put, List.setIfInBounds_toArray, List.set_cons_zero, List.set_cons_succ]) (hCont (.slice Ao43 t26003.length co43, .slice Ao42 t26006.length co42, gb26009) _ ⟨hHeld, (Kd.R_ext (Kd.R_mono HO26005.out (fun _ hk => hk.2))), (Kd.R_ext (Kd.R_mono HO26008.out (fun _ hk => hk.2))), (blk_ext BK26001.out), (blk_ext BK26002.out), (blk_ext BK26009.out), GW26009.out, GE26009.out, NB26001_26009.out, NB26009_26001.out, NB26002_26009.out, NB26009_26002.out, (below_extB HB.out)⟩)
      rintro ⟨v26004, v26007, gb26009⟩ w44 ⟨hS_, h0_, h1_, h2_, h3_, h4_, h5_, h6_, h7_, h8_, h9_, h10_, h11_⟩
      have n0_ : Aside0 (Kd.R (Kd.int .u8) 5 w44 w.heap.size (fun k_ => some k_ ≠ (v26007 : Value).ownBlock) v26004 t26003) := ⟨h0_⟩
      have n1_ : Aside0 (Kd.R (Kd.int .u8) 5 w44 w.heap.size (fun k_ => some k_ ≠ (v26004 : Value).ownBlock) v26007 t26006) := ⟨h1_⟩
      have n2_ : Aside0 (w44.heap[gb26001]? = some (.cells #[.slice A0_0 l0_0.length c0_0, .slice A0_1 l0_1.length c0_1] 24 (0, 0))) := ⟨h2_⟩
      have n3_ : Aside0 (w44.heap[gb26002]? = some (.cells #[.slice none 0 0, .slice none 0 0] 24 (0, 0))) := ⟨h3_⟩
      have n4_ : Aside0 (w44.heap[gb26009]? = some (.cells #[.slice none 0 0, .slice none 0 0] 24 (0, 0))) := ⟨h4_⟩
      have n5_ : Aside0 (w.heap.size ≤ gb26009) := ⟨h5_⟩
      have n6_ : Aside0 (w.heap.size ≤ gb26009) := ⟨h6_⟩
      have n7_ : Aside0 (gb26001 ≠ gb26009) := ⟨h7_⟩
      have n8_ : Aside0 (gb26009 ≠ gb26001) := ⟨h8_⟩
      have n9_ : Aside0 (gb26002 ≠ gb26009) := ⟨h9_⟩
      have n10_ : Aside0 (gb26009 ≠ gb26002) := ⟨h10_⟩
      have n11_ : Aside0 (Below w.heap.size w w44) := ⟨h11_⟩
      clear BK26001
      clear BK26002
      clear HB
      clear h0_ h1_ h2_ h3_ h4_ h5_ h6_ h7_ h8_ h9_ h10_ h11_
      have HO26005 := n0_
      have HO26008 := n1_
      have BK26001 := n2_
      have BK26002 := n3_
      have BK26009 := n4_
      have GW26009 := n5_
      have GE26009 := n6_; have GI26009 := GE_.mk GE26009.out
      have NB26001_26009 := n7_; have NI26001_26009 := NE_.mk NB26001_26009.out
      have NB26009_26001 := n8_; have NI26009_26001 := NE_.mk NB26009_26001.out
      have NB26002_26009 := n9_; have NI26002_26009 := NE_.mk NB26002_26009.out
      have NB26009_26002 := n10_; have NI26009_26002 := NE_.mk NB26009_26002.out
      have HB := n11_
      clear n0_ n1_ n2_ n3_ n4_ n5_ n6_ n7_ n8_ n9_ n10_ n11_
      have hHeld : w44.cell? ⟨gb26001, 0, none⟩ = some (.slice A0_0 l0_0.length c0_0) ∧ w44.cell? ⟨gb26001, 1, none⟩ = some (.slice A0_1 l0_1.length c0_1) := hS_
      obtain ⟨Ao45, co45, eo45⟩ := Kd.R_slice HO26008.out
      (first | subst eo45 | (injection eo45 with f1_ f2_ f3_; have f4_ := f1_.symm; have f5_ := f3_.symm; clear f1_ f2_ f3_; subst f4_; subst f5_))
      obtain ⟨Ao46, co46, eo46⟩ := Kd.R_slice HO26005.out
      (first | subst eo46 | (injection eo46 with f1_ f2_ f3_; have f4_ := f1_.symm; have f5_ := f3_.symm; clear f1_ f2_ f3_; subst f4_; subst f5_))
      refine norm_ (a' := ?_) ?_ ?_
      rotate_left
      · simp only [putAll, Act.put, List.setIfInBounds_toArray, List.set_cons_zero, List.set_cons_succ]
        rfl
      refine one_ (i := 8) (N := none) #[true, true, true, true, true, true, true, true, true] rfl rfl (one_of HT_.out (by kernel_rfl)) (by decide) (fun K hK => ?_)
      have hs47 : w44.cell? ⟨gb26009, 0, none⟩ = some (.slice none 0 0) := (blk_cell BK26009.out 0).trans rfl
      have hfs47 := blk_frozen BK26009.out 0
      have hns47_0 := NB26001_26009.out
      have hns47_1 := NB26002_26009.out
      have hms47_0 := NB26009_26001.out
      have hms47_1 := NB26009_26002.out
      have hs48 : w44.cell? ⟨gb26009, 1, none⟩ = some (.slice none 0 0) := (blk_cell BK26009.out 1).trans rfl
      have hfs48 := blk_frozen BK26009.out 1
      have hns48_0 := NB26001_26009.out
      have hns48_1 := NB26002_26009.out
      have hms48_0 := NB26009_26001.out
      have hms48_1 := NB26009_26002.out
      refine skip_ (w1 := ?_) (by rfl) rfl ?_ ?_
      rotate_left
      · go_simp
        rfl
      refine hK.out _ _ ⟨((cell_far (p := ⟨gb26009, _, none⟩) NB26001_26009.out _).trans (((cell_far (p := ⟨gb26009, _, none⟩) NB26001_26009.out _).trans (hHeld.1)))), ((cell_far (p := ⟨gb26009, _, none⟩) NB26001_26009.out _).trans (((cell_far (p := ⟨gb26009, _, none⟩) NB26001_26009.out _).trans (hHeld.2))))⟩ (fun hHeld => ?_)
      clear hK K
      refine done_ (done_of HT_.out (by kernel_rfl)) ?_
      have hnb49 := NB26009_26001.out
      have hnc49 := NB26001_26009.out
      have hnb50 := NB26009_26002.out
      have hnc50 := NB26002_26009.out
      have hcz51_0 : w44.cell? ⟨gb26009, 0, none⟩ = some (.slice none 0 0) := (blk_cell BK26009.out 0).trans rfl
      have hcz51_1 : w44.cell? ⟨gb26009, 1, none⟩ = some (.slice none 0 0) := (blk_cell BK26009.out 1).trans rfl
      have hfz51_0 := blk_frozen BK26009.out 0
      have hfz51_1 := blk_frozen BK26009.out 1
      have hnb52 := NB26002_26001.out
      have hnc52 := NB26001_26002.out
      have hcz53_0 : w44.cell? ⟨gb26002, 0, none⟩ = some (.slice none 0 0) := (blk_cell BK26002.out 0).trans rfl
      have hcz53_1 : w44.cell? ⟨gb26002, 1, none⟩ = some (.slice none 0 0) := (blk_cell BK26002.out 1).trans rfl
      have hfz53_0 := blk_frozen BK26002.out 0
      have hfz53_1 := blk_frozen BK26002.out 1
      try go_wp2
      refine bodyPost_ret (results_cell_row rfl _ _ gb26002 24 #[.slice Ao46 t26003.length co46, .slice Ao45 t26006.length co45] (0, 0) _ rfl (by (with_reducible repeat (first | refine blk_drewN ?_ _ | refine blk_drew ?_ | refine blk_alloc ?_ _)); refine blk_put (cs := #[.slice Ao46 t26003.length co46, .slice none 0 0]) ?_ 1 _ rfl; (with_reducible repeat (first | refine blk_drewN ?_ _ | refine blk_drew ?_ | refine blk_alloc ?_ _)); refine blk_put (cs := #[.slice none 0 0, .slice none 0 0]) ?_ 0 _ rfl; (with_reducible repeat (first | refine blk_drewN ?_ _ | refine blk_drew ?_ | refine blk_alloc ?_ _)); refine blk_far ?_ NB26002_26009.out _; (with_reducible repeat (first | refine blk_drewN ?_ _ | refine blk_drew ?_ | refine blk_alloc ?_ _)); refine blk_far ?_ NB26002_26009.out _; exact blk_ext BK26002.out) Try.underlying24 rfl (by kernel_rfl)) rfl ?_
      exact ⟨_, _, by first | rfl | (simp [errW_none, errW_some] <;> rfl) | (simp [*, errW_none, errW_some] <;> rfl), Kd.R_ext (Kd.R_mono (Kd.R_far (p := ⟨gb26002, 1, none⟩) (Kd.R_far (p := ⟨gb26002, 0, none⟩) (Kd.R_far (p := ⟨gb26009, 1, none⟩) (Kd.R_far (p := ⟨gb26009, 0, none⟩) (Kd.R_types (Kd.R_types HO26005.out BK26009.out (by decide)) BK26002.out (by decide)) (fun _ hk => hk.1.2) (.slice Ao46 t26003.length co46)) (fun _ hk => hk.1.2) (.slice Ao45 t26006.length co45)) (fun _ hk => hk.2) (.slice Ao46 t26003.length co46)) (fun _ hk => hk.2) (.slice Ao45 t26006.length co45)) (fun _ hk => hk.1.1)), Kd.R_ext (Kd.R_mono (Kd.R_far (p := ⟨gb26002, 1, none⟩) (Kd.R_far (p := ⟨gb26002, 0, none⟩) (Kd.R_far (p := ⟨gb26009, 1, none⟩) (Kd.R_far (p := ⟨gb26009, 0, none⟩) (Kd.R_types (Kd.R_types HO26008.out BK26009.out (by decide)) BK26002.out (by decide)) (fun _ hk => hk.1.2) (.slice Ao46 t26003.length co46)) (fun _ hk => hk.1.2) (.slice Ao45 t26006.length co45)) (fun _ hk => hk.2) (.slice Ao46 t26003.length co46)) (fun _ hk => hk.2) (.slice Ao45 t26006.length co45)) (fun _ hk => hk.1.1)), below_extB HB.out⟩
  · rw [if_neg c5] at H
    have c5b0 : decide (0 ≤ a1) = false := decide_eq_false c5
    clear c5
    simp only [Option.some.injEq, Prod.mk.injEq] at H
    obtain ⟨rfl, rfl⟩ := H
    go_enter Try.func26, Try.ntmps26
    try go_wp2_with (first | ((with_reducible refine gate_dst (N := 2) rfl ?_); (try (refine gate_guard (by rfl) ?_; dsimp only)); refine box_event ?hg (N := 2) ?hd (cs := #[.slice A0_0 l0_0.length c0_0, .slice A0_1 l0_1.length c0_1]) (t := 24) ?hr ?_; (case hd => rfl); (case hg => rfl); (case hr => first | (go_simp; done) | (go_simp; rfl)); intro gb26001 hg w54 hbox hb; have n1_ := Aside0.mk (hbox); have n2_ := Aside0.mk ((by rw [hg]; exact (below_size (below_ext HB.out)) : w.heap.size ≤ gb26001)); have n3_ := Aside0.mk ((by rw [hg]; exact (below_size (below_ext HB.out)) : w.heap.size ≤ gb26001)); have BK26001 := n1_; have GW26001 := n2_; have GE26001 := n3_; have GI26001 := GE_.mk GE26001.out; replace HB := mvH HB hb; clear n1_ n2_ n3_; clear hb hbox hg) | ((with_reducible refine gate_dst (N := 4) rfl ?_); (try (refine gate_guard (by rfl) ?_; dsimp only)); refine box_event ?hg (N := 4) ?hd (cs := #[.slice none 0 0, .slice none 0 0]) (t := 24) ?hr ?_; (case hd => rfl); (case hg => rfl); (case hr => first | (go_simp; done) | (go_simp; rfl)); intro gb26002 hg w55 hbox hb; have n2_ := Aside0.mk (hbox); have n3_ := Aside0.mk ((by rw [hg]; exact (below_size (below_extB HB.out)) : w.heap.size ≤ gb26002)); have n4_ := Aside0.mk ((by rw [hg]; exact (below_size (below_extB HB.out)) : w.heap.size ≤ gb26002)); have n5_ := Aside0.mk ((by rw [hg]; exact Nat.ne_of_lt (blk_lt (blk_ext BK26001.out)) : gb26001 ≠ gb26002)); have n6_ := Aside0.mk ((by rw [hg]; exact Nat.ne_of_gt (blk_lt (blk_ext BK26001.out)) : gb26002 ≠ gb26001)); have BK26002 := n2_; have GW26002 := n3_; have GE26002 := n4_; have GI26002 := GE_.mk GE26002.out; have NB26001_26002 := n5_; have NI26001_26002 := NE_.mk NB26001_26002.out; have NB26002_26001 := n6_; have NI26002_26001 := NE_.mk NB26002_26001.out; replace BK26001 := mvB BK26001 hb; replace HB := mvH HB hb; clear n2_ n3_ n4_ n5_ n6_; clear hb hbox hg))
    have n0_ := Aside0.mk (blk_drew BK26001.out)
    have n1_ := Aside0.mk (blk_drew BK26002.out)
    have n2_ := Aside0.mk (below_drew1 HB.out)
    clear BK26001
    clear BK26002
    clear HB
    have BK26001 := n0_
    have BK26002 := n1_
    have HB := n2_
    clear n0_ n1_ n2_
    refine start_ (n := 9) (S := fun w' => w'.cell? ⟨gb26001, 0, none⟩ = some (.slice A0_0 l0_0.length c0_0) ∧ w'.cell? ⟨gb26001, 1, none⟩ = some (.slice A0_1 l0_1.length c0_1)) (ds := []) #[false, false, false, false, false, false, false, false, false] (by kernel_rfl) rfl rfl ⟨(blk_cell BK26001.out 0).trans rfl, (blk_cell BK26001.out 1).trans rfl⟩ (fun hHeld => ?_); refine with_tabW disk_Flip.tab1 disk_Flip.bits1 (fun HT_ HW_ => ?_)
    generalize w55.drew = w56 at BK26001 BK26002 HB hHeld ⊢
    refine pure_ (i := 0) (N := some 6) (v := ?_) (a' := ?_) #[true, false, false, false, false, false, false, false, false] rfl rfl (any_of HT_.out (by kernel_rfl)) (fun _ _ _ h => h) (Or.inl ⟨by rfl, ?_⟩) ?_ ?_
    rotate_left
    · intro w'
      go_simp
      with_reducible rfl
    rotate_left
    · simp only [Act.put, List.setIfInBounds_toArray, List.set_cons_zero, List.set_cons_succ, i64_w, i32_w]
      rfl
    refine pure_ (i := 3) (N := some 9) (v := ?_) (a' := ?_) #[true, false, false, true, false, false, false, false, false] rfl rfl (any_of HT_.out (by kernel_rfl)) (fun _ _ _ h => h) (Or.inl ⟨by rfl, ?_⟩) ?_ ?_
    rotate_left
    · intro w'
      go_simp
      with_reducible rfl
    rotate_left
    · simp only [Act.put, List.setIfInBounds_toArray, List.set_cons_zero, List.set_cons_succ, i64_w, i32_w]
      rfl
    refine take_ (i := 1) (N := some 7) (v := ?_) (a' := ?_) #[true, true, false, true, false, false, false, false, false] rfl rfl (take_ofW HT_.out HW_.out (by kernel_rfl)) (fun _ _ _ h => h) (Or.inl ⟨by rfl, ?_⟩) hHeld ?_ ?_
    rotate_left
    · rintro w' ⟨s0, s1⟩
      go_simp
      with_reducible rfl
    rotate_left
    · simp only [Act.put, List.setIfInBounds_toArray, List.set_cons_zero, List.set_cons_succ, i64_w, i32_w]
      rfl
    refine take_ (i := 4) (N := some 10) (v := ?_) (a' := ?_) #[true, true, false, true, true, false, false, false, false] rfl rfl (take_ofW HT_.out HW_.out (by kernel_rfl)) (fun _ _ _ h => h) (Or.inl ⟨by rfl, ?_⟩) hHeld ?_ ?_
    rotate_left
    · rintro w' ⟨s0, s1⟩
      go_simp
      with_reducible rfl
    rotate_left
    · simp only [Act.put, List.setIfInBounds_toArray, List.set_cons_zero, List.set_cons_succ, i64_w, i32_w]
      rfl
    refine join_ (σ := Value × Value × Nat) 1 #[true, true, true, true, true, true, true, true, false] (fun s_ => [(8, s_.1), (11, s_.2.1), (5, .pointer (some ⟨s_.2.2, 0, none⟩)), (12, .agg #[s_.1, s_.2.1])]) (fun s_ w' => (w'.cell? ⟨gb26001, 0, none⟩ = some (.slice A0_0 l0_0.length c0_0) ∧ w'.cell? ⟨gb26001, 1, none⟩ = some (.slice A0_1 l0_1.length c0_1)) ∧ (Kd.R (Kd.int .u8) 5 w' w.heap.size (fun k_ => some k_ ≠ (s_.2.1 : Value).ownBlock) s_.1 t26003) ∧ (Kd.R (Kd.int .u8) 5 w' w.heap.size (fun k_ => some k_ ≠ (s_.1 : Value).ownBlock) s_.2.1 t26006) ∧ (w'.heap[gb26001]? = some (.cells #[.slice A0_0 l0_0.length c0_0, .slice A0_1 l0_1.length c0_1] 24 (0, 0))) ∧ (w'.heap[gb26002]? = some (.cells #[.slice none 0 0, .slice none 0 0] 24 (0, 0))) ∧ (w'.heap[s_.2.2]? = some (.cells #[.slice none 0 0, .slice none 0 0] 24 (0, 0))) ∧ (w.heap.size ≤ s_.2.2) ∧ (w.heap.size ≤ s_.2.2) ∧ (gb26001 ≠ s_.2.2) ∧ (s_.2.2 ≠ gb26001) ∧ (gb26002 ≠ s_.2.2) ∧ (s_.2.2 ≠ gb26002) ∧ (Below w.heap.size w w')) ?_ ?_
    rotate_left
    · intro hCont
      refine two_ (i := 2) (j := 7) (Ni := some 8) (Nj := some 5) #[true, true, true, true, true, false, false, false, false] #[true, true, false, true, true, false, false, true, false] rfl rfl rfl rfl (two_of HT_.out (by kernel_rfl)) (by decide) (by decide) (fun K hK => ?_) (fun K hK => ?_)
      · skip
        refine goes_ Try.func64 (by kernel_rfl) rfl #[.slice A0_0 l0_0.length c0_0] (by rfl) rfl rfl (by (try simp only [List.map_toArray, List.map_cons, List.map_nil]); first | done | rfl | (simp only [List.length_drop, List.length_take]; rfl)) ?_
        with_reducible refine (slices_Clone_byte_byte.calls _ _ l0_0 t26003 _ ?side1 ?side2 A3.out).mono ?_
        (case side1 => repeat (first | exact (Kd.C_below HR0_0.out HB.out) | (with_reducible refine Kd.C_alloc ?_ _) | (with_reducible refine Kd.C_drewN ?_ _) | (with_reducible refine Kd.C_drew ?_)))
        (case side2 => exact HC0_0.out)
        rintro e w57 ⟨v26004, rfl, ho0, hb⟩
        refine ⟨_, rfl, ?_⟩
        have n0_ := Aside0.mk (Kd.R_lower ho0 (below_size (below_extB HB.out)))
        have HO26005 := n0_
        replace BK26001 := mvB BK26001 hb
        replace BK26002 := mvB BK26002 hb
        replace HB := mvH HB hb
        clear n0_
        (try clear hb)
        (try clear hb2)
        (try clear hk)
        (try clear hi)
        (try clear ho0)
        refine hK.out _ _ ⟨(blk_cell BK26001.out 0).trans rfl, (blk_cell BK26001.out 1).trans rfl⟩ (fun hHeld => ?_)
        clear hK K
        refine norm_ (a' := ?_) ?_ ?_
        rotate_left
        · show Act.put _ (some 8) _ = _
          simp only [Act.put, List.setIfInBounds_toArray, List.set_cons_zero, List.set_cons_succ, i64_w, i32_w]
          rfl
        refine two_ (i := 5) (j := 7) (Ni := some 11) (Nj := some 5) #[true, true, true, true, true, true, false, false, false] #[true, true, true, true, true, false, false, true, false] rfl rfl rfl rfl (two_of HT_.out (by kernel_rfl)) (by decide) (by decide) (fun K hK => ?_) (fun K hK => ?_)
        · skip
          refine goes_ Try.func64 (by kernel_rfl) rfl #[.slice A0_1 l0_1.length c0_1] (by rfl) rfl rfl (by (try simp only [List.map_toArray, List.map_cons, List.map_nil]); first | done | rfl | (simp only [List.length_drop, List.length_take]; rfl)) ?_
          with_reducible refine (slices_Clone_byte_byte.calls _ _ l0_1 t26006 _ ?side1 ?side2 A4.out).mono ?_
          (case side1 => repeat (first | exact (Kd.C_below HR0_1.out HB.out) | (with_reducible refine Kd.C_alloc ?_ _) | (with_reducible refine Kd.C_drewN ?_ _) | (with_reducible refine Kd.C_drew ?_)))
          (case side2 => exact HC0_1.out)
          rintro e w58 ⟨v26007, rfl, ho0, hb⟩
          refine ⟨_, rfl, ?_⟩
          have n1_ := Aside0.mk (Kd.R_lower (Kd.R_new' ho0 (Kd.R_lt (Kd.R_ext HO26005.out))) (below_size (below_extB HB.out)))
          have HO26008 := n1_
          replace HO26005 := apR HO26005 hb (Kd.R_base ho0)
          replace BK26001 := mvB BK26001 hb
          replace BK26002 := mvB BK26002 hb
          replace HB := mvH HB hb
          clear n1_
          (try clear hb)
          (try clear hb2)
          (try clear hk)
          (try clear hi)
          (try clear ho0)
          obtain ⟨Ao59, co59, eo59⟩ := Kd.R_slice HO26008.out
          (first | subst eo59 | (injection eo59 with f1_ f2_ f3_; have f4_ := f1_.symm; have f5_ := f3_.symm; clear f1_ f2_ f3_; subst f4_; subst f5_))
          obtain ⟨Ao60, co60, eo60⟩ := Kd.R_slice HO26005.out
          (first | subst eo60 | (injection eo60 with f1_ f2_ f3_; have f4_ := f1_.symm; have f5_ := f3_.symm; clear f1_ f2_ f3_; subst f4_; subst f5_))
          refine hK.out _ _ ⟨(blk_cell BK26001.out 0).trans rfl, (blk_cell BK26001.out 1).trans rfl⟩ (fun hHeld => ?_)
          clear hK K
          refine norm_ (a' := ?_) ?_ ?_
          rotate_left
          · show Act.put _ (some 11) _ = _
            simp only [Act.put, List.setIfInBounds_toArray, List.set_cons_zero, List.set_cons_succ, i64_w, i32_w]
            rfl
          refine pure_ (i := 6) (N := some 12) (v := ?_) (a' := ?_) #[true, true, true, true, true, true, true, false, false] rfl rfl (any_of HT_.out (by kernel_rfl)) (fun _ _ _ h => h) (Or.inl ⟨by rfl, ?_⟩) ?_ ?_
          rotate_left
          · intro w'
            go_simp
            with_reducible rfl
          rotate_left
          · simp only [Act.put, List.setIfInBounds_toArray, List.set_cons_zero, List.set_cons_succ, i64_w, i32_w]
            rfl
          refine one_ (i := 7) (N := some 5) #[true, true, true, true, true, true, true, true, false] rfl rfl (one_of HT_.out (by kernel_rfl)) (by decide) (fun K hK => ?_)
          refine box_step ?hg (N := 5) ?hd (cs := #[.slice none 0 0, .slice none 0 0]) (t := 24) ?hr ?_; (case hd => rfl); (case hg => rfl); (case hr => first | (go_simp; done) | (go_simp; rfl))
          intro gb26009 hg w61 hbox hb
          have n5_ := Aside0.mk (hbox)
          have n6_ := Aside0.mk ((by rw [hg]; exact (below_size (below_extB HB.out)) : w.heap.size ≤ gb26009))
          have n7_ := Aside0.mk ((by rw [hg]; exact (below_size (below_extB HB.out)) : w.heap.size ≤ gb26009))
          have n8_ := Aside0.mk ((by rw [hg]; exact Nat.ne_of_lt (blk_lt (blk_ext BK26001.out)) : gb26001 ≠ gb26009))
          have n9_ := Aside0.mk ((by rw [hg]; exact Nat.ne_of_gt (blk_lt (blk_ext BK26001.out)) : gb26009 ≠ gb26001))
          have n10_ := Aside0.mk ((by rw [hg]; exact Nat.ne_of_lt (blk_lt (blk_ext BK26002.out)) : gb26002 ≠ gb26009))
          have n11_ := Aside0.mk ((by rw [hg]; exact Nat.ne_of_gt (blk_lt (blk_ext BK26002.out)) : gb26009 ≠ gb26002))
          have BK26009 := n5_
          have GW26009 := n6_
          have GE26009 := n7_; have GI26009 := GE_.mk GE26009.out
          have NB26001_26009 := n8_; have NI26001_26009 := NE_.mk NB26001_26009.out
          have NB26009_26001 := n9_; have NI26009_26001 := NE_.mk NB26009_26001.out
          have NB26002_26009 := n10_; have NI26002_26009 := NE_.mk NB26002_26009.out
          have NB26009_26002 := n11_; have NI26009_26002 := NE_.mk NB26009_26002.out
          replace HO26005 := mvR HO26005 hb
          replace HO26008 := mvR HO26008 hb
          replace BK26001 := mvB BK26001 hb
          replace BK26002 := mvB BK26002 hb
          replace HB := mvH HB hb
          clear n5_ n6_ n7_ n8_ n9_ n10_ n11_
          clear hb hbox hg
          refine hK.out _ _ ⟨(blk_cell BK26001.out 0).trans rfl, (blk_cell BK26001.out 1).trans rfl⟩ (fun hHeld => ?_)
          clear hK K
          refine norm_ (a' := ?_) ?_ ?_
          rotate_left
          · show Act.put _ (some 5) _ = _
            simp only [Act.put, List.setIfInBounds_toArray, List.set_cons_zero, List.set_cons_succ, i64_w, i32_w]
            rfl
          exact norm_ (by simp only [putAll, Act.put, List.setIfInBounds_toArray, List.set_cons_zero, List.set_cons_succ]) (hCont (.slice Ao60 t26003.length co60, .slice Ao59 t26006.length co59, gb26009) _ ⟨hHeld, (Kd.R_ext (Kd.R_mono HO26005.out (fun _ hk => hk.2))), (Kd.R_ext (Kd.R_mono HO26008.out (fun _ hk => hk.2))), (blk_ext BK26001.out), (blk_ext BK26002.out), (blk_ext BK26009.out), GW26009.out, GE26009.out, NB26001_26009.out, NB26009_26001.out, NB26002_26009.out, NB26009_26002.out, (below_extB HB.out)⟩)
        · skip
          refine box_step ?hg (N := 5) ?hd (cs := #[.slice none 0 0, .slice none 0 0]) (t := 24) ?hr ?_; (case hd => rfl); (case hg => rfl); (case hr => first | (go_simp; done) | (go_simp; rfl))
          intro gb26009 hg w58 hbox hb
          have n4_ := Aside0.mk (hbox)
          have n5_ := Aside0.mk ((by rw [hg]; exact (below_size (below_extB HB.out)) : w.heap.size ≤ gb26009))
          have n6_ := Aside0.mk ((by rw [hg]; exact (below_size (below_extB HB.out)) : w.heap.size ≤ gb26009))
          have n7_ := Aside0.mk ((by rw [hg]; exact Nat.ne_of_lt (blk_lt (blk_ext BK26001.out)) : gb26001 ≠ gb26009))
          have n8_ := Aside0.mk ((by rw [hg]; exact Nat.ne_of_gt (blk_lt (blk_ext BK26001.out)) : gb26009 ≠ gb26001))
          have n9_ := Aside0.mk ((by rw [hg]; exact Nat.ne_of_lt (blk_lt (blk_ext BK26002.out)) : gb26002 ≠ gb26009))
          have n10_ := Aside0.mk ((by rw [hg]; exact Nat.ne_of_gt (blk_lt (blk_ext BK26002.out)) : gb26009 ≠ gb26002))
          have BK26009 := n4_
          have GW26009 := n5_
          have GE26009 := n6_; have GI26009 := GE_.mk GE26009.out
          have NB26001_26009 := n7_; have NI26001_26009 := NE_.mk NB26001_26009.out
          have NB26009_26001 := n8_; have NI26009_26001 := NE_.mk NB26009_26001.out
          have NB26002_26009 := n9_; have NI26002_26009 := NE_.mk NB26002_26009.out
          have NB26009_26002 := n10_; have NI26009_26002 := NE_.mk NB26009_26002.out
          replace HO26005 := mvR HO26005 hb
          replace BK26001 := mvB BK26001 hb
          replace BK26002 := mvB BK26002 hb
          replace HB := mvH HB hb
          clear n4_ n5_ n6_ n7_ n8_ n9_ n10_
          clear hb hbox hg
          refine hK.out _ _ ⟨(blk_cell BK26001.out 0).trans rfl, (blk_cell BK26001.out 1).trans rfl⟩ (fun hHeld => ?_)
          clear hK K
          refine norm_ (a' := ?_) ?_ ?_
          rotate_left
          · show Act.put _ (some 5) _ = _
            simp only [Act.put, List.setIfInBounds_toArray, List.set_cons_zero, List.set_cons_succ, i64_w, i32_w]
            rfl
          refine one_ (i := 5) (N := some 11) #[true, true, true, true, true, true, false, true, false] rfl rfl (one_of HT_.out (by kernel_rfl)) (by decide) (fun K hK => ?_)
          refine goes_ Try.func64 (by kernel_rfl) rfl #[.slice A0_1 l0_1.length c0_1] (by rfl) rfl rfl (by (try simp only [List.map_toArray, List.map_cons, List.map_nil]); first | done | rfl | (simp only [List.length_drop, List.length_take]; rfl)) ?_
          with_reducible refine (slices_Clone_byte_byte.calls _ _ l0_1 t26006 _ ?side1 ?side2 A4.out).mono ?_
          (case side1 => repeat (first | exact (Kd.C_below HR0_1.out HB.out) | (with_reducible refine Kd.C_alloc ?_ _) | (with_reducible refine Kd.C_drewN ?_ _) | (with_reducible refine Kd.C_drew ?_)))
          (case side2 => exact HC0_1.out)
          rintro e w59 ⟨v26007, rfl, ho0, hb⟩
          refine ⟨_, rfl, ?_⟩
          have n1_ := Aside0.mk (Kd.R_lower (Kd.R_new' ho0 (Kd.R_lt (Kd.R_ext HO26005.out))) (below_size (below_extB HB.out)))
          have HO26008 := n1_
          replace HO26005 := apR HO26005 hb (Kd.R_base ho0)
          replace BK26001 := mvB BK26001 hb
          replace BK26002 := mvB BK26002 hb
          replace BK26009 := mvB BK26009 hb
          replace HB := mvH HB hb
          clear n1_
          (try clear hb)
          (try clear hb2)
          (try clear hk)
          (try clear hi)
          (try clear ho0)
          obtain ⟨Ao60, co60, eo60⟩ := Kd.R_slice HO26008.out
          (first | subst eo60 | (injection eo60 with f1_ f2_ f3_; have f4_ := f1_.symm; have f5_ := f3_.symm; clear f1_ f2_ f3_; subst f4_; subst f5_))
          obtain ⟨Ao61, co61, eo61⟩ := Kd.R_slice HO26005.out
          (first | subst eo61 | (injection eo61 with f1_ f2_ f3_; have f4_ := f1_.symm; have f5_ := f3_.symm; clear f1_ f2_ f3_; subst f4_; subst f5_))
          refine hK.out _ _ ⟨(blk_cell BK26001.out 0).trans rfl, (blk_cell BK26001.out 1).trans rfl⟩ (fun hHeld => ?_)
          clear hK K
          refine norm_ (a' := ?_) ?_ ?_
          rotate_left
          · show Act.put _ (some 11) _ = _
            simp only [Act.put, List.setIfInBounds_toArray, List.set_cons_zero, List.set_cons_succ, i64_w, i32_w]
            rfl
          refine pure_ (i := 6) (N := some 12) (v := ?_) (a' := ?_) #[true, true, true, true, true, true, true, true, false] rfl rfl (any_of HT_.out (by kernel_rfl)) (fun _ _ _ h => h) (Or.inl ⟨by rfl, ?_⟩) ?_ ?_
          rotate_left
          · intro w'
            go_simp
            with_reducible rfl
          rotate_left
          · simp only [Act.put, List.setIfInBounds_toArray, List.set_cons_zero, List.set_cons_succ, i64_w, i32_w]
            rfl
          exact norm_ (by simp only [putAll, Act.put, List.setIfInBounds_toArray, List.set_cons_zero, List.set_cons_succ]) (hCont (.slice Ao61 t26003.length co61, .slice Ao60 t26006.length co60, gb26009) _ ⟨hHeld, (Kd.R_ext (Kd.R_mono HO26005.out (fun _ hk => hk.2))), (Kd.R_ext (Kd.R_mono HO26008.out (fun _ hk => hk.2))), (blk_ext BK26001.out), (blk_ext BK26002.out), (blk_ext BK26009.out), GW26009.out, GE26009.out, NB26001_26009.out, NB26009_26001.out, NB26002_26009.out, NB26009_26002.out, (below_extB HB.out)⟩)
      · skip
        refine box_step ?hg (N := 5) ?hd (cs := #[.slice none 0 0, .slice none 0 0]) (t := 24) ?hr ?_; (case hd => rfl); (case hg => rfl); (case hr => first | (go_simp; done) | (go_simp; rfl))
        intro gb26009 hg w57 hbox hb
        have n3_ := Aside0.mk (hbox)
        have n4_ := Aside0.mk ((by rw [hg]; exact (below_size (below_extB HB.out)) : w.heap.size ≤ gb26009))
        have n5_ := Aside0.mk ((by rw [hg]; exact (below_size (below_extB HB.out)) : w.heap.size ≤ gb26009))
        have n6_ := Aside0.mk ((by rw [hg]; exact Nat.ne_of_lt (blk_lt (blk_ext BK26001.out)) : gb26001 ≠ gb26009))
        have n7_ := Aside0.mk ((by rw [hg]; exact Nat.ne_of_gt (blk_lt (blk_ext BK26001.out)) : gb26009 ≠ gb26001))
        have n8_ := Aside0.mk ((by rw [hg]; exact Nat.ne_of_lt (blk_lt (blk_ext BK26002.out)) : gb26002 ≠ gb26009))
        have n9_ := Aside0.mk ((by rw [hg]; exact Nat.ne_of_gt (blk_lt (blk_ext BK26002.out)) : gb26009 ≠ gb26002))
        have BK26009 := n3_
        have GW26009 := n4_
        have GE26009 := n5_; have GI26009 := GE_.mk GE26009.out
        have NB26001_26009 := n6_; have NI26001_26009 := NE_.mk NB26001_26009.out
        have NB26009_26001 := n7_; have NI26009_26001 := NE_.mk NB26009_26001.out
        have NB26002_26009 := n8_; have NI26002_26009 := NE_.mk NB26002_26009.out
        have NB26009_26002 := n9_; have NI26009_26002 := NE_.mk NB26009_26002.out
        replace BK26001 := mvB BK26001 hb
        replace BK26002 := mvB BK26002 hb
        replace HB := mvH HB hb
        clear n3_ n4_ n5_ n6_ n7_ n8_ n9_
        clear hb hbox hg
        refine hK.out _ _ ⟨(blk_cell BK26001.out 0).trans rfl, (blk_cell BK26001.out 1).trans rfl⟩ (fun hHeld => ?_)
        clear hK K
        refine norm_ (a' := ?_) ?_ ?_
        rotate_left
        · show Act.put _ (some 5) _ = _
          simp only [Act.put, List.setIfInBounds_toArray, List.set_cons_zero, List.set_cons_succ, i64_w, i32_w]
          rfl
        refine one_ (i := 2) (N := some 8) #[true, true, true, true, true, false, false, true, false] rfl rfl (one_of HT_.out (by kernel_rfl)) (by decide) (fun K hK => ?_)
        refine goes_ Try.func64 (by kernel_rfl) rfl #[.slice A0_0 l0_0.length c0_0] (by rfl) rfl rfl (by (try simp only [List.map_toArray, List.map_cons, List.map_nil]); first | done | rfl | (simp only [List.length_drop, List.length_take]; rfl)) ?_
        with_reducible refine (slices_Clone_byte_byte.calls _ _ l0_0 t26003 _ ?side1 ?side2 A3.out).mono ?_
        (case side1 => repeat (first | exact (Kd.C_below HR0_0.out HB.out) | (with_reducible refine Kd.C_alloc ?_ _) | (with_reducible refine Kd.C_drewN ?_ _) | (with_reducible refine Kd.C_drew ?_)))
        (case side2 => exact HC0_0.out)
        rintro e w58 ⟨v26004, rfl, ho0, hb⟩
        refine ⟨_, rfl, ?_⟩
        have n0_ := Aside0.mk (Kd.R_lower ho0 (below_size (below_extB HB.out)))
        have HO26005 := n0_
        replace BK26001 := mvB BK26001 hb
        replace BK26002 := mvB BK26002 hb
        replace BK26009 := mvB BK26009 hb
        replace HB := mvH HB hb
        clear n0_
        (try clear hb)
        (try clear hb2)
        (try clear hk)
        (try clear hi)
        (try clear ho0)
        refine hK.out _ _ ⟨(blk_cell BK26001.out 0).trans rfl, (blk_cell BK26001.out 1).trans rfl⟩ (fun hHeld => ?_)
        clear hK K
        refine norm_ (a' := ?_) ?_ ?_
        rotate_left
        · show Act.put _ (some 8) _ = _
          simp only [Act.put, List.setIfInBounds_toArray, List.set_cons_zero, List.set_cons_succ, i64_w, i32_w]
          rfl
        refine one_ (i := 5) (N := some 11) #[true, true, true, true, true, true, false, true, false] rfl rfl (one_of HT_.out (by kernel_rfl)) (by decide) (fun K hK => ?_)
        refine goes_ Try.func64 (by kernel_rfl) rfl #[.slice A0_1 l0_1.length c0_1] (by rfl) rfl rfl (by (try simp only [List.map_toArray, List.map_cons, List.map_nil]); first | done | rfl | (simp only [List.length_drop, List.length_take]; rfl)) ?_
        with_reducible refine (slices_Clone_byte_byte.calls _ _ l0_1 t26006 _ ?side1 ?side2 A4.out).mono ?_
        (case side1 => repeat (first | exact (Kd.C_below HR0_1.out HB.out) | (with_reducible refine Kd.C_alloc ?_ _) | (with_reducible refine Kd.C_drewN ?_ _) | (with_reducible refine Kd.C_drew ?_)))
        (case side2 => exact HC0_1.out)
        rintro e w59 ⟨v26007, rfl, ho0, hb⟩
        refine ⟨_, rfl, ?_⟩
        have n1_ := Aside0.mk (Kd.R_lower (Kd.R_new' ho0 (Kd.R_lt (Kd.R_ext HO26005.out))) (below_size (below_extB HB.out)))
        have HO26008 := n1_
        replace HO26005 := apR HO26005 hb (Kd.R_base ho0)
        replace BK26001 := mvB BK26001 hb
        replace BK26002 := mvB BK26002 hb
        replace BK26009 := mvB BK26009 hb
        replace HB := mvH HB hb
        clear n1_
        (try clear hb)
        (try clear hb2)
        (try clear hk)
        (try clear hi)
        (try clear ho0)
        obtain ⟨Ao60, co60, eo60⟩ := Kd.R_slice HO26008.out
        (first | subst eo60 | (injection eo60 with f1_ f2_ f3_; have f4_ := f1_.symm; have f5_ := f3_.symm; clear f1_ f2_ f3_; subst f4_; subst f5_))
        obtain ⟨Ao61, co61, eo61⟩ := Kd.R_slice HO26005.out
        (first | subst eo61 | (injection eo61 with f1_ f2_ f3_; have f4_ := f1_.symm; have f5_ := f3_.symm; clear f1_ f2_ f3_; subst f4_; subst f5_))
        refine hK.out _ _ ⟨(blk_cell BK26001.out 0).trans rfl, (blk_cell BK26001.out 1).trans rfl⟩ (fun hHeld => ?_)
        clear hK K
        refine norm_ (a' := ?_) ?_ ?_
        rotate_left
        · show Act.put _ (some 11) _ = _
          simp only [Act.put, List.setIfInBounds_toArray, List.set_cons_zero, List.set_cons_succ, i64_w, i32_w]
          rfl
        refine pure_ (i := 6) (N := some 12) (v := ?_) (a' := ?_) #[true, true, true, true, true, true, true, true, false] rfl rfl (any_of HT_.out (by kernel_rfl)) (fun _ _ _ h => h) (Or.inl ⟨by rfl, ?_⟩) ?_ ?_
        rotate_left
        · intro w'
          go_simp
          with_reducible rfl
        rotate_left
        · simp only [Act.put, List.setIfInBounds_toArray, List.set_cons_zero, List.set_cons_succ, i64_w, i32_w]
          rfl
        exact norm_ (by simp only [putAll, Act.put, List.setIfInBounds_toArray, List.set_cons_zero, List.set_cons_succ]) (hCont (.slice Ao61 t26003.length co61, .slice Ao60 t26006.length co60, gb26009) _ ⟨hHeld, (Kd.R_ext (Kd.R_mono HO26005.out (fun _ hk => hk.2))), (Kd.R_ext (Kd.R_mono HO26008.out (fun _ hk => hk.2))), (blk_ext BK26001.out), (blk_ext BK26002.out), (blk_ext BK26009.out), GW26009.out, GE26009.out, NB26001_26009.out, NB26009_26001.out, NB26002_26009.out, NB26009_26002.out, (below_extB HB.out)⟩)
    rintro ⟨v26004, v26007, gb26009⟩ w62 ⟨hS_, h0_, h1_, h2_, h3_, h4_, h5_, h6_, h7_, h8_, h9_, h10_, h11_⟩
    have n0_ : Aside0 (Kd.R (Kd.int .u8) 5 w62 w.heap.size (fun k_ => some k_ ≠ (v26007 : Value).ownBlock) v26004 t26003) := ⟨h0_⟩
    have n1_ : Aside0 (Kd.R (Kd.int .u8) 5 w62 w.heap.size (fun k_ => some k_ ≠ (v26004 : Value).ownBlock) v26007 t26006) := ⟨h1_⟩
    have n2_ : Aside0 (w62.heap[gb26001]? = some (.cells #[.slice A0_0 l0_0.length c0_0, .slice A0_1 l0_1.length c0_1] 24 (0, 0))) := ⟨h2_⟩
    have n3_ : Aside0 (w62.heap[gb26002]? = some (.cells #[.slice none 0 0, .slice none 0 0] 24 (0, 0))) := ⟨h3_⟩
    have n4_ : Aside0 (w62.heap[gb26009]? = some (.cells #[.slice none 0 0, .slice none 0 0] 24 (0, 0))) := ⟨h4_⟩
    have n5_ : Aside0 (w.heap.size ≤ gb26009) := ⟨h5_⟩
    have n6_ : Aside0 (w.heap.size ≤ gb26009) := ⟨h6_⟩
    have n7_ : Aside0 (gb26001 ≠ gb26009) := ⟨h7_⟩
    have n8_ : Aside0 (gb26009 ≠ gb26001) := ⟨h8_⟩
    have n9_ : Aside0 (gb26002 ≠ gb26009) := ⟨h9_⟩
    have n10_ : Aside0 (gb26009 ≠ gb26002) := ⟨h10_⟩
    have n11_ : Aside0 (Below w.heap.size w w62) := ⟨h11_⟩
    clear BK26001
    clear BK26002
    clear HB
    clear h0_ h1_ h2_ h3_ h4_ h5_ h6_ h7_ h8_ h9_ h10_ h11_
    have HO26005 := n0_
    have HO26008 := n1_
    have BK26001 := n2_
    have BK26002 := n3_
    have BK26009 := n4_
    have GW26009 := n5_
    have GE26009 := n6_; have GI26009 := GE_.mk GE26009.out
    have NB26001_26009 := n7_; have NI26001_26009 := NE_.mk NB26001_26009.out
    have NB26009_26001 := n8_; have NI26009_26001 := NE_.mk NB26009_26001.out
    have NB26002_26009 := n9_; have NI26002_26009 := NE_.mk NB26002_26009.out
    have NB26009_26002 := n10_; have NI26009_26002 := NE_.mk NB26009_26002.out
    have HB := n11_
    clear n0_ n1_ n2_ n3_ n4_ n5_ n6_ n7_ n8_ n9_ n10_ n11_
    have hHeld : w62.cell? ⟨gb26001, 0, none⟩ = some (.slice A0_0 l0_0.length c0_0) ∧ w62.cell? ⟨gb26001, 1, none⟩ = some (.slice A0_1 l0_1.length c0_1) := hS_
    obtain ⟨Ao63, co63, eo63⟩ := Kd.R_slice HO26008.out
    (first | subst eo63 | (injection eo63 with f1_ f2_ f3_; have f4_ := f1_.symm; have f5_ := f3_.symm; clear f1_ f2_ f3_; subst f4_; subst f5_))
    obtain ⟨Ao64, co64, eo64⟩ := Kd.R_slice HO26005.out
    (first | subst eo64 | (injection eo64 with f1_ f2_ f3_; have f4_ := f1_.symm; have f5_ := f3_.symm; clear f1_ f2_ f3_; subst f4_; subst f5_))
    refine norm_ (a' := ?_) ?_ ?_
    rotate_left
    · simp only [putAll, Act.put, List.setIfInBounds_toArray, List.set_cons_zero, List.set_cons_succ]
      rfl
    refine one_ (i := 8) (N := none) #[true, true, true, true, true, true, true, true, true] rfl rfl (one_of HT_.out (by kernel_rfl)) (by decide) (fun K hK => ?_)
    have hs65 : w62.cell? ⟨gb26009, 0, none⟩ = some (.slice none 0 0) := (blk_cell BK26009.out 0).trans rfl
    have hfs65 := blk_frozen BK26009.out 0
    have hns65_0 := NB26001_26009.out
    have hns65_1 := NB26002_26009.out
    have hms65_0 := NB26009_26001.out
    have hms65_1 := NB26009_26002.out
    have hs66 : w62.cell? ⟨gb26009, 1, none⟩ = some (.slice none 0 0) := (blk_cell BK26009.out 1).trans rfl
    have hfs66 := blk_frozen BK26009.out 1
    have hns66_0 := NB26001_26009.out
    have hns66_1 := NB26002_26009.out
    have hms66_0 := NB26009_26001.out
    have hms66_1 := NB26009_26002.out
    refine skip_ (w1 := ?_) (by rfl) rfl ?_ ?_
    rotate_left
    · go_simp
      rfl
    refine hK.out _ _ ⟨((cell_far (p := ⟨gb26009, _, none⟩) NB26001_26009.out _).trans (((cell_far (p := ⟨gb26009, _, none⟩) NB26001_26009.out _).trans (hHeld.1)))), ((cell_far (p := ⟨gb26009, _, none⟩) NB26001_26009.out _).trans (((cell_far (p := ⟨gb26009, _, none⟩) NB26001_26009.out _).trans (hHeld.2))))⟩ (fun hHeld => ?_)
    clear hK K
    refine done_ (done_of HT_.out (by kernel_rfl)) ?_
    have hnb67 := NB26009_26001.out
    have hnc67 := NB26001_26009.out
    have hnb68 := NB26009_26002.out
    have hnc68 := NB26002_26009.out
    have hcz69_0 : w62.cell? ⟨gb26009, 0, none⟩ = some (.slice none 0 0) := (blk_cell BK26009.out 0).trans rfl
    have hcz69_1 : w62.cell? ⟨gb26009, 1, none⟩ = some (.slice none 0 0) := (blk_cell BK26009.out 1).trans rfl
    have hfz69_0 := blk_frozen BK26009.out 0
    have hfz69_1 := blk_frozen BK26009.out 1
    have hnb70 := NB26002_26001.out
    have hnc70 := NB26001_26002.out
    have hcz71_0 : w62.cell? ⟨gb26002, 0, none⟩ = some (.slice none 0 0) := (blk_cell BK26002.out 0).trans rfl
    have hcz71_1 : w62.cell? ⟨gb26002, 1, none⟩ = some (.slice none 0 0) := (blk_cell BK26002.out 1).trans rfl
    have hfz71_0 := blk_frozen BK26002.out 0
    have hfz71_1 := blk_frozen BK26002.out 1
    try go_wp2
    refine bodyPost_ret (results_cell_row rfl _ _ gb26002 24 #[.slice Ao64 t26003.length co64, .slice Ao63 t26006.length co63] (0, 0) _ rfl (by (with_reducible repeat (first | refine blk_drewN ?_ _ | refine blk_drew ?_ | refine blk_alloc ?_ _)); refine blk_put (cs := #[.slice Ao64 t26003.length co64, .slice none 0 0]) ?_ 1 _ rfl; (with_reducible repeat (first | refine blk_drewN ?_ _ | refine blk_drew ?_ | refine blk_alloc ?_ _)); refine blk_put (cs := #[.slice none 0 0, .slice none 0 0]) ?_ 0 _ rfl; (with_reducible repeat (first | refine blk_drewN ?_ _ | refine blk_drew ?_ | refine blk_alloc ?_ _)); refine blk_far ?_ NB26002_26009.out _; (with_reducible repeat (first | refine blk_drewN ?_ _ | refine blk_drew ?_ | refine blk_alloc ?_ _)); refine blk_far ?_ NB26002_26009.out _; exact blk_ext BK26002.out) Try.underlying24 rfl (by kernel_rfl)) rfl ?_
    exact ⟨_, _, by first | rfl | (simp [errW_none, errW_some] <;> rfl) | (simp [*, errW_none, errW_some] <;> rfl), Kd.R_ext (Kd.R_mono (Kd.R_far (p := ⟨gb26002, 1, none⟩) (Kd.R_far (p := ⟨gb26002, 0, none⟩) (Kd.R_far (p := ⟨gb26009, 1, none⟩) (Kd.R_far (p := ⟨gb26009, 0, none⟩) (Kd.R_types (Kd.R_types HO26005.out BK26009.out (by decide)) BK26002.out (by decide)) (fun _ hk => hk.1.2) (.slice Ao64 t26003.length co64)) (fun _ hk => hk.1.2) (.slice Ao63 t26006.length co63)) (fun _ hk => hk.2) (.slice Ao64 t26003.length co64)) (fun _ hk => hk.2) (.slice Ao63 t26006.length co63)) (fun _ hk => hk.1.1)), Kd.R_ext (Kd.R_mono (Kd.R_far (p := ⟨gb26002, 1, none⟩) (Kd.R_far (p := ⟨gb26002, 0, none⟩) (Kd.R_far (p := ⟨gb26009, 1, none⟩) (Kd.R_far (p := ⟨gb26009, 0, none⟩) (Kd.R_types (Kd.R_types HO26008.out BK26009.out (by decide)) BK26002.out (by decide)) (fun _ hk => hk.1.2) (.slice Ao64 t26003.length co64)) (fun _ hk => hk.1.2) (.slice Ao63 t26006.length co63)) (fun _ hk => hk.2) (.slice Ao64 t26003.length co64)) (fun _ hk => hk.2) (.slice Ao63 t26006.length co63)) (fun _ hk => hk.1.1)), below_extB HB.out⟩

end Go.Proofs.Ytfljnggpnndmkaa.Z
