/- Written by a program of this session: each Go function as a plain Lean function, and that the machine's call does what it says. Conditions: none but those each theorem states. -/
import Derived.Test.YtfljnggpnndmkaaZ0
namespace Go.Proofs.Ytfljnggpnndmkaa.Z
open Go.RowKit Go.Proofs.YtfljnggpnndmkaaW.PrintWords Go.Proofs.YtfljnggpnndmkaaW.PrintLast Go.Proofs.YtfljnggpnndmkaaW.PrintMore
attribute [local go_sem] max2_int min2_int max_two min_two max_three min_three max_four min_four   -- for this text's walks alone
set_option linter.unusedVariables false
set_option linter.unusedSimpArgs false

/-! ### slices_Delete_int_int: function 73 -/
-- a cell behind the row's last is written
theorem slices_Delete_int_int.R_behind {α : Type} {enc : α → Value} {h1 : ∀ x, (enc x).oneCell' = true} {e : Nat} {w : World} {base g m c : Nat} {ok : Nat → Prop} {xs : List α} (h : (Kd.scalar enc h1).R e w base ok (.slice (some ⟨g, 0, none⟩) m c) xs) (hm : m < c) (u : Value) :
    (w.cell? ⟨g, m, none⟩).isSome = true ∧ w.frozen? ⟨g, m, none⟩ = false ∧ (Kd.scalar enc h1).R e (w.setCells g m [u]) base ok (.slice (some ⟨g, 0, none⟩) m c) xs ∧ w.grownBy (w.setCells g m [u]) (some g) := by
  have hn := (Kd.R_reads' h).1
  have hown := Kd.own_of_R h
  obtain ⟨hl, h2⟩ := hown
  rcases h2 with ⟨hv, _⟩ | ⟨g', cap, cur, hv, hb, hh, hnc, hcm, hcs, htake⟩
  · cases hv
  have hv' := hv
  injection hv with hv1 hv2 hv3
  injection hv1 with hv1
  injection hv1 with hv1
  subst hv1
  subst hv3
  have hlt : m < cur.size := by omega
  have hc : w.cell? ⟨g, m, none⟩ = cur[m]? := blk_cell hh m
  refine ⟨?_, blk_frozen hh m, ?_, ?_⟩
  · rw [hc, Array.getElem?_eq_getElem hlt]; rfl
  · obtain ⟨cur', h3, h4, h5⟩ := setCells_row [u] m w cur hh (by simp; omega)
    refine Kd.R_of_own ⟨hl, .inr ⟨g, c, cur', hv', hb, h3, hnc, hcm, by omega, ?_⟩⟩ h.1
    rw [h5, List.append_assoc, List.take_append_of_le_length (by simp; omega), ← htake, List.take_take, Nat.mul_one, ← hn, Nat.min_self]
  · obtain ⟨s1, s2, s3, s4⟩ := setCells_same g [u] m w
    exact ⟨s1, s2, s3, by rw [s4]; exact Nat.le_refl _, fun k _ hk => setCells_far [u] m k (fun he => hk (by rw [he]))⟩

def slices_Delete_int_int.f (l0 : List Int) (a1 : Int) (a2 : Int) : Option (List Int) := if 0 ≤ a1 then (if a1 < (l0.length : Int) then (if a2 = a1 + 1 then some (l0.eraseIdx a1.toNat) else none) else none) else none
set_option maxHeartbeats 8000000 in
set_option maxRecDepth 100000 in
theorem slices_Delete_int_int.calls (P0_ : Nat → Prop) (u9000_ : Value) (l0 : List Int) (a1 : Int) (a2 : Int) (r : List Int) (w0 w : World) (hB : Below w0.heap.size w0 w) (ho0 : Kd.R (Kd.int .i64) 3 w w0.heap.size P0_ u9000_ l0) (h : slices_Delete_int_int.f l0 a1 a2 = some r) :
    Calls Try.prog 73 #[u9000_, .int .i64 a1, .int .i64 a2] w fun e w' => ∃ v0_ : Value, e = .returned (v0_) ∧ Kd.R (Kd.int .i64) 3 w' w0.heap.size (fun k_ => (P0_ k_ ∨ w.heap.size ≤ k_)) v0_ r ∧ Below w0.heap.size w0 w' ∧ Kept w w' (fun k_ => P0_ k_) := by
  unfold slices_Delete_int_int.f at h
  split at h
  case isFalse => cases h
  case isTrue h0 =>
  split at h
  case isFalse => cases h
  case isTrue h1 =>
  split at h
  case isFalse => cases h
  case isTrue h2 =>
  obtain rfl := Option.some.inj h
  clear h
  subst h2
  obtain ⟨k, rfl⟩ := Int.eq_ofNat_of_zero_le h0
  have hk : k < l0.length := by omega
  obtain ⟨A, c, rfl, hlc, hC⟩ := Kd.R_reads ho0
  have hgc : ∃ g, A = some ⟨g, 0, none⟩ ∧ c ≤ 9223372036854775807 := by
    rcases (Kd.own_of_R ho0).2 with ⟨hv, _⟩ | ⟨g', cap, cur, hv, hb, hh, hnc, hcm, hcs, htake⟩
    · injection hv with _ hv2 _
      omega
    · injection hv with hv1 hv2 hv3
      exact ⟨g', hv1, by simp only [maxLen] at hcm; omega⟩
  obtain ⟨g, rfl, hcm⟩ := hgc
  have HO := Aside0.mk (Kd.R_mono ho0 (ok' := fun k_ => (P0_ k_ ∨ w.heap.size ≤ k_)) (fun _ hk => .inl hk))
  have HP := Aside0.mk (ho0.1 g rfl)
  have HB := Aside0.mk hB
  clear ho0 hC hB
  have b0 : (0 : Int) ≤ (k : Int) := by omega
  have b1 : (k : Int) + 1 ≤ (l0.length : Int) := by omega
  have b2 : (k : Int) + 1 ≤ (c : Int) := by omega
  have b3 : ((k : Int) == (k : Int) + 1) = false := by rw [beq_eq_false_iff_ne]; omega
  have d1 : k ≤ c := by omega
  have d4 : (0 : Int) ≤ (k : Int) + 1 := by omega
  have d2 : k + 1 ≤ c := by omega
  have d3 : k + 1 ≤ l0.length := by omega
  have b4 : (l0.length : Int) ≤ 9223372036854775807 := by omega
  go_enter Try.func73, Try.ntmps73
  go_wp2
  refine start_ (n := 8) (S := fun _ => True) (ds := []) #[false, false, false, false, false, false, false, false] (by kernel_rfl) rfl rfl trivial (fun _ => ?_)
  refine pure_ (i := 0) (N := some 20) (v := ?_) (a' := ?_) #[true, false, false, false, false, false, false, false] rfl rfl (by kernel_rfl) (fun _ _ _ h => h) (Or.inl ⟨by rfl, ?_⟩) ?_ ?_
  rotate_left
  · intro w'
    go_simp
    try simp only [if_pos d1, if_pos d2, if_pos d3, if_pos d4]
    try with_reducible rfl
  rotate_left
  · simp only [Act.put, List.setIfInBounds_toArray, List.set_cons_zero, List.set_cons_succ, i64_w, i32_w]
    rfl
  refine pure_ (i := 1) (N := some 21) (v := ?_) (a' := ?_) #[true, true, false, false, false, false, false, false] rfl rfl (by kernel_rfl) (fun _ _ _ h => h) (Or.inl ⟨by rfl, ?_⟩) ?_ ?_
  rotate_left
  · intro w'
    go_simp
    try simp only [if_pos d1, if_pos d2, if_pos d3, if_pos d4]
    try with_reducible rfl
  rotate_left
  · simp only [Act.put, List.setIfInBounds_toArray, List.set_cons_zero, List.set_cons_succ, i64_w, i32_w]
    rfl
  refine pure_ (i := 2) (N := some 22) (v := ?_) (a' := ?_) #[true, true, true, false, false, false, false, false] rfl rfl (by kernel_rfl) (fun _ _ _ h => h) (Or.inl ⟨by rfl, ?_⟩) ?_ ?_
  rotate_left
  · intro w'
    go_simp
    try simp only [if_pos d1, if_pos d2, if_pos d3, if_pos d4]
    try with_reducible rfl
  rotate_left
  · simp only [Act.put, List.setIfInBounds_toArray, List.set_cons_zero, List.set_cons_succ, i64_w, i32_w]
    rfl
  refine pure_ (i := 3) (N := some 23) (v := ?_) (a' := ?_) #[true, true, true, true, false, false, false, false] rfl rfl (by kernel_rfl) (fun _ _ _ h => h) (Or.inl ⟨by rfl, ?_⟩) ?_ ?_
  rotate_left
  · intro w'
    go_simp
    try simp only [if_pos d1, if_pos d2, if_pos d3, if_pos d4]
    try with_reducible rfl
  rotate_left
  · simp only [Act.put, List.setIfInBounds_toArray, List.set_cons_zero, List.set_cons_succ, i64_w, i32_w]
    rfl
  refine pure_ (i := 4) (N := some 24) (v := ?_) (a' := ?_) #[true, true, true, true, true, false, false, false] rfl rfl (by kernel_rfl) (fun _ _ _ h => h) (Or.inl ⟨by rfl, ?_⟩) ?_ ?_
  rotate_left
  · intro w'
    go_simp
    try simp only [if_pos d1, if_pos d2, if_pos d3, if_pos d4]
    try with_reducible rfl
  rotate_left
  · simp only [Act.put, List.setIfInBounds_toArray, List.set_cons_zero, List.set_cons_succ, i64_w, i32_w]
    rfl
  refine pure_ (i := 5) (N := some 25) (v := ?_) (a' := ?_) #[true, true, true, true, true, true, false, false] rfl rfl (by kernel_rfl) (fun _ _ _ h => h) (Or.inl ⟨by rfl, ?_⟩) ?_ ?_
  rotate_left
  · intro w'
    go_simp
    try simp only [if_pos d1, if_pos d2, if_pos d3, if_pos d4]
    try with_reducible rfl
  rotate_left
  · simp only [Act.put, List.setIfInBounds_toArray, List.set_cons_zero, List.set_cons_succ, i64_w, i32_w]
    rfl
  refine one_ (i := 6) (N := some 26) #[true, true, true, true, true, true, true, false] rfl rfl (by kernel_rfl) (by decide) (fun K hK => ?_)
  refine Kd.R_delete_step (Kd.int .i64) (w0 := w0) w0.heap.size (by rfl) (.tmp 22) (.tmp 25) 42 3 rfl Try.underlying42 (by kernel_rfl) (g := g) (n := l0.length) (c := c) (k := k) (m := l0.length - (k + 1)) (c2 := c - (k + 1)) (A := if c = k + 1 then some ⟨g, 0, none⟩ else some ⟨g, k + 1, none⟩) (xs := l0) (ok := fun k_ => (P0_ k_ ∨ w.heap.size ≤ k_)) ?aX ?aY ?aZ rfl (Kd.R_drew HO.out) hk (below_drew1 HB.out) (below_drew1 HB.out).size ?_
  case aX => rfl
  case aY => rfl
  case aZ => simp [Kd.int, Kd.string, Kd.scalar, Addr.add]
  intro w1 hv hb hg
  have hbe := slices_Delete_int_int.R_behind hv (show l0.length - 1 < c by omega) (.int .i64 0)
  refine hK.out _ _ trivial (fun _ => ?_)
  clear hK K
  refine norm_ (a' := ?_) ?_ ?_
  rotate_left
  · show Act.put _ (some 26) _ = _
    simp only [Act.put, List.setIfInBounds_toArray, List.set_cons_zero, List.set_cons_succ, i64_w, i32_w]
    rfl
  refine pure_ (i := 7) (N := some 0) (v := ?_) (a' := ?_) #[true, true, true, true, true, true, true, true] rfl rfl (by kernel_rfl) (fun _ _ _ h => h) (Or.inl ⟨by rfl, ?_⟩) ?_ ?_
  rotate_left
  · intro w'
    go_simp
    try with_reducible rfl
  rotate_left
  · simp only [Act.put, List.setIfInBounds_toArray, List.set_cons_zero, List.set_cons_succ, i64_w, i32_w]
    rfl
  refine done_ (by kernel_rfl) ?_
  have e1 : c ≠ l0.length - 1 := by omega
  have e2 : l0.length ≤ c := hlc
  have e3 : l0.length - 1 ≤ l0.length := by omega
  have HV := Aside0.mk hv
  have HE := Aside0.mk hbe
  have HB1 := Aside0.mk hb
  have HG := Aside0.mk hg
  have zv : ∀ w, (zeroValue 3).run Try.prog w = .ok (.int .i64 0) w := fun w => by kernel_rfl
  have hcl : ∀ ty, (Builtin.clear_ #[42] ty #[.slice (some ⟨g, l0.length - 1, none⟩) (l0.length - (l0.length - 1)) (c - (l0.length - 1))]).run Try.prog w1 = .ok (.tuple #[]) (w1.setCells g (l0.length - 1) [.int .i64 0]) := fun ty => by
    have hone : l0.length - (l0.length - 1) = 1 := by omega
    rw [hone]
    have q1 : ∀ j, j < 1 → (w1.cell? ⟨g, (l0.length - 1) + j, none⟩).isSome = true := by
      intro j hj
      obtain rfl : j = 0 := by omega
      exact hbe.1
    have q2 : ∀ j, j < 1 → w1.frozen? ⟨g, (l0.length - 1) + j, none⟩ = false := by
      intro j hj
      obtain rfl : j = 0 := by omega
      exact hbe.2.1
    exact Lib.run_clear_slice w1 42 3 ty _ Try.underlying42 zv rfl rfl g (l0.length - 1) 1 _ (by omega) q1 q2
  clear hv hbe hb hg zv
  generalize (if c = k + 1 then some (⟨g, 0, none⟩ : Addr) else some ⟨g, k + 1, none⟩) = A25
  go_wp2
  go_ret
  refine ⟨_, rfl, HE.out.2.2.1, ?_, ?_⟩
  · exact HB1.out.grown HE.out.2.2.2 HB1.out.size (fun k_ e_ => by injection e_ with e_; subst e_; exact Kd.R_base HV.out _ (by simp [Value.ownBlock]))
  · refine Kept.of_grown HE.out.2.2.2 (Kept.of_grown HG.out (Kept.refl _ _).drew ?_) ?_
    · intro k_ e_
      injection e_ with e_
      subst e_
      exact .inl HP.out
    · intro k_ e_
      injection e_ with e_
      subst e_
      exact .inl HP.out

end Go.Proofs.Ytfljnggpnndmkaa.Z
