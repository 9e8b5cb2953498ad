/- Printed: a Go function in plain Lean, and that its call does what it says. Conditions: those each theorem states. -/
import Derived.Test.YtoolggpfgadjlaaDoorZ0
import Derived.Test.YtoolggpfgadjlaaDoorZcustomsmadeWithin
namespace Go.Proofs.YtoolggpfgadjlaaDoor.Z
open Go.RowKit Go.Proofs.YtoolggpfgadjlaaDoorW.PrintWords Go.Proofs.YtoolggpfgadjlaaDoorW.PrintLast Go.Proofs.YtoolggpfgadjlaaDoorW.PrintMore
attribute [local go_sem high] str_leq str_geq str_gtr   -- strings
attribute [local go_sem] max2_int min2_int max_two min_two max_three min_three max_four min_four   -- for this text's walks alone
set_option linter.unusedVariables false
set_option linter.unusedSimpArgs false

/-- A state of type 55 at block g of W; what its slices lead to came in by w0. -/
def IsS55 (w0 W : World) (g : Nat) (f0 : List Int) (f1 : Int) : Prop := ∃ A0 c0, W.heap[g]? = some (.cells #[.slice A0 f0.length c0, .int .i64 f1] 55 (0, 0)) ∧ w0.heap.size ≤ g ∧ Kd.C (Kd.int .i64) w0 A0 f0.length f0
theorem IsS55.grown {w0 W : World} {g : Nat} {f0 : List Int} {f1 : Int} {W1 : World} {row : Option Nat} (h : IsS55 w0 W g f0 f1) (hw : W.grownBy W1 row) (hne : some g ≠ row) : IsS55 w0 W1 g f0 f1 := by
 obtain ⟨A0, c0, hb, hg, hr0⟩ := h
 exact ⟨A0, c0, blk_grown hb hw hne, hg, hr0⟩
theorem IsS55.own_neN {w0 W : World} {g : Nat} {f0 : List Int} {f1 : Int} {α : Type} {d : Kd α} {e : Nat} {base : Nat} {ok : Nat → Prop} {v : Value} {xs : List α} (h : IsS55 w0 W g f0 f1) (ho : Kd.N d e W base ok v xs) (ht : e ≠ 55) : some g ≠ v.ownBlock := by
 obtain ⟨A0, c0, hb, hg, hr0⟩ := h
 exact Kd.N_ne ho hb ht
theorem IsS55.fresh {w0 W : World} {g : Nat} {f0 : List Int} {f1 : Int} (h : IsS55 w0 W g f0 f1) : ∀ k, W.heap.size ≤ k → k ≠ g := by
 obtain ⟨A0, c0, hb, hg, hr0⟩ := h
 exact Kd.freshB hb
theorem IsS55.kept {w0 W : World} {g : Nat} {f0 : List Int} {f1 : Int} {W1 : World} {S : Nat → Prop} (h : IsS55 w0 W g f0 f1) (hk : Kept W W1 S) (hne : ¬ S g) : IsS55 w0 W1 g f0 f1 := by
 obtain ⟨A0, c0, hb, hg, hr0⟩ := h
 exact ⟨A0, c0, blk_kept hb hk hne, hg, hr0⟩
theorem IsS55.below {w0 W : World} {g : Nat} {f0 : List Int} {f1 : Int} {W1 : World} (h : IsS55 w0 W g f0 f1) (hw : Below W.heap.size W W1) : IsS55 w0 W1 g f0 f1 := h.grown (grown_of_below hw none) (by simp)
theorem IsS55.alloc {w0 W : World} {g : Nat} {f0 : List Int} {f1 : Int} (h : IsS55 w0 W g f0 f1) (o : Obj) : IsS55 w0 (W.alloc o) g f0 f1 := h.below (below_alloc (Below.refl _ _) o)
theorem IsS55.drewN {w0 W : World} {g : Nat} {f0 : List Int} {f1 : Int} (h : IsS55 w0 W g f0 f1) (m : Nat) : IsS55 w0 (W.drewN m) g f0 f1 := h
theorem IsS55.drew {w0 W : World} {g : Nat} {f0 : List Int} {f1 : Int} (h : IsS55 w0 W g f0 f1) : IsS55 w0 W.drew g f0 f1 := h
theorem IsS55.at_ {w0 W : World} {g : Nat} {f0 : List Int} {f1 : Int} {w' : World} {m : Nat} (hq : W.drewN m = w') (h : IsS55 w0 W g f0 f1) : IsS55 w0 w' g f0 f1 := by subst hq; exact IsS55.drewN h m
theorem IsS55.apart {w0 W : World} {g : Nat} {f0 : List Int} {f1 : Int} {α : Type} {d : Kd α} {e : Nat} {base : Nat} {ok : Nat → Prop} {v : Value} {xs : List α} (h : IsS55 w0 W g f0 f1) (ho : d.R e W base ok v xs) (ht : ∀ q, q ∈ e :: d.E → q ≠ 55) : d.R e W base (fun k => ok k ∧ k ≠ g) v xs := by
 obtain ⟨A0, c0, hb, hg, hr0⟩ := h
 exact Kd.R_types ho hb ht
theorem IsS55.own_ne {w0 W : World} {g : Nat} {f0 : List Int} {f1 : Int} {α : Type} {d : Kd α} {e : Nat} {base : Nat} {ok : Nat → Prop} {v : Value} {xs : List α} (h : IsS55 w0 W g f0 f1) (ho : d.R e W base ok v xs) (ht : e ≠ 55) : some g ≠ v.ownBlock := by
 obtain ⟨A0, c0, hb, hg, hr0⟩ := h
 exact Kd.R_ne ho hb ht
theorem IsS55.apartQ {w0 W : World} {g : Nat} {f0 : List Int} {f1 : Int} {α : Type} {d : Kd α} {e : Nat} {base : Nat} {ok : Nat → Prop} {v : Value} {xs : List α} (h : IsS55 w0 W g f0 f1) (ho : d.Q e W base ok v xs) (ht : ∀ q, q ∈ e :: d.E → q ≠ 55) : d.Q e W base (fun k => ok k ∧ k ≠ g) v xs := by
 obtain ⟨A0, c0, hb, hg, hr0⟩ := h
 exact Kd.Q_types ho hb ht
theorem IsS55.own_neQ {w0 W : World} {g : Nat} {f0 : List Int} {f1 : Int} {α : Type} {d : Kd α} {e : Nat} {base : Nat} {ok : Nat → Prop} {v : Value} {xs : List α} (h : IsS55 w0 W g f0 f1) (ho : d.Q e W base ok v xs) (ht : e ≠ 55) : some g ≠ v.ownBlock := by
 obtain ⟨A0, c0, hb, hg, hr0⟩ := h
 exact Kd.Q_ne ho hb ht
theorem IsS55.apartS {w0 W : World} {g : Nat} {f0 : List Int} {f1 : Int} {α : Type} {d : Kd α} {e : Nat} {base : Nat} {ok : Nat → Prop} {v : Value} {xs : List α} (h : IsS55 w0 W g f0 f1) (ho : d.S e W base ok v xs) (ht : ∀ q, q ∈ e :: d.E → q ≠ 55) : d.S e W base (fun k => ok k ∧ k ≠ g) v xs := by
 obtain ⟨A0, c0, hb, hg, hr0⟩ := h
 exact Kd.S_types ho hb ht
theorem IsS55.own_neS {w0 W : World} {g : Nat} {f0 : List Int} {f1 : Int} {α : Type} {d : Kd α} {e : Nat} {base : Nat} {ok : Nat → Prop} {v : Value} {xs : List α} (h : IsS55 w0 W g f0 f1) (ho : d.S e W base ok v xs) (ht : e ≠ 55) : some g ≠ v.ownBlock := by
 obtain ⟨A0, c0, hb, hg, hr0⟩ := h
 exact Kd.S_ne ho hb ht
theorem IsS55.lt {w0 W : World} {g : Nat} {f0 : List Int} {f1 : Int} (h : IsS55 w0 W g f0 f1) : g < W.heap.size := by
 obtain ⟨A0, c0, hb, hg, hr0⟩ := h
 exact blk_lt hb
theorem IsS55.ge {w0 W : World} {g : Nat} {f0 : List Int} {f1 : Int} (h : IsS55 w0 W g f0 f1) : w0.heap.size ≤ g := by
 obtain ⟨A0, c0, hb, hg, hr0⟩ := h
 exact hg
theorem IsS55.ne_blk {w0 W : World} {g : Nat} {f0 : List Int} {f1 : Int} {a : Nat} {cs : Array Value} {t : TypeId} {fr : Nat × Nat} (h : IsS55 w0 W g f0 f1) (hb2 : W.heap[a]? = some (.cells cs t fr)) (ht : t ≠ 55) : g ≠ a := by
 obtain ⟨A0, c0, hb, hg, hr0⟩ := h
 rintro rfl
 rw [hb] at hb2
 injection hb2 with hb2
 injection hb2 with _ ht2
 exact ht ht2.symm
theorem IsS55.far {w0 W : World} {g : Nat} {f0 : List Int} {f1 : Int} {p : Addr} (h : IsS55 w0 W g f0 f1) (hne : g ≠ p.block) (u : Value) : IsS55 w0 (W.setCell p u) g f0 f1 := by
 obtain ⟨A0, c0, hb, hg, hr0⟩ := h
 exact ⟨A0, c0, blk_far hb hne u, hg, hr0⟩
theorem cellS55_0 {W : World} {g : Nat} {A0 : Option Addr} {c0 : Nat} {f0 : List Int} {f1 : Int} (h : W.heap[g]? = some (.cells #[.slice A0 f0.length c0, .int .i64 f1] 55 (0, 0))) : W.cell? ⟨g, 0, none⟩ = some (.slice A0 f0.length c0) := (blk_cell h 0).trans rfl
theorem cellS55_1 {W : World} {g : Nat} {A0 : Option Addr} {c0 : Nat} {f0 : List Int} {f1 : Int} (h : W.heap[g]? = some (.cells #[.slice A0 f0.length c0, .int .i64 f1] 55 (0, 0))) : W.cell? ⟨g, 1, none⟩ = some (.int .i64 f1) := (blk_cell h 1).trans rfl
theorem IsS55.set_1 {w0 W : World} {g : Nat} {f0 : List Int} {f1 : Int} (h : IsS55 w0 W g f0 f1) (x : Int) : IsS55 w0 (W.setCell ⟨g, 1, none⟩ (.int .i64 x)) g f0 x := by
 obtain ⟨A0, c0, hb, hg, hr0⟩ := h
 exact ⟨A0, c0, by simpa using blk_set hb 1 (.int .i64 x), hg, hr0⟩
theorem IsS55.new (w0 W : World) (A0 : Option Addr) (c0 : Nat) (f0 : List Int) (f1 : Int) (hB : Below w0.heap.size w0 W) (hr0 : Kd.C (Kd.int .i64) w0 A0 f0.length f0) : IsS55 w0 (W.alloc (.cells #[.slice A0 f0.length c0, .int .i64 f1] 55)) W.heap.size f0 f1 := ⟨A0, c0, by simpa using heap_alloc_new W _, hB.size, hr0⟩

/-! ### customsmade_Source_Next: function 25 -/
def customsmade_Source_Next.f (s0_0 : List Int) (s0_1 : Int) (a1 : Int) : Option (Int × Int) := if s0_1 ≥ (s0_0.length : Int) then (some (0, s0_1)) else (if 0 ≤ (wrap64 ((wrap64 (s0_1 + 1)) - 1)) then (if (wrap64 ((wrap64 (s0_1 + 1)) - 1)) < (s0_0.length : Int) then ((customsmade_Within.f (rd s0_0 (wrap64 ((wrap64 (s0_1 + 1)) - 1))) a1).bind fun t25002 => (some (t25002, wrap64 (s0_1 + 1)))) else (none)) else (none))
set_option maxHeartbeats 8000000 in
set_option maxRecDepth 100000 in
theorem customsmade_Source_Next.calls (g : Nat) (s0_0 : List Int) (s0_1 : Int) (a1 : Int) (r1 : Int) (r2 : Int) (w0 w : World) (hI : IsS55 w0 w g s0_0 s0_1) (hB : Below w0.heap.size w0 w) (h : customsmade_Source_Next.f s0_0 s0_1 a1 = some (r1, r2)) :
  Calls Tryd.prog 25 #[.pointer (some ⟨g, 0, none⟩), .int .i64 a1] w fun e w' => e = .returned (.int .i64 r1) ∧ IsS55 w0 w' g s0_0 r2 ∧ Below w0.heap.size w0 w' ∧ KeepBut w w' g none := by
 have HI0 := Aside0.mk hI
 have HK := Aside0.mk (KeepBut.refl w g none)
 have HL := Aside0.mk hB.size
 clear hI
 have HW0 := Aside0.mk hB.size
 have HB := Aside0.mk hB
 clear hB
 have H : (if s0_1 ≥ (s0_0.length : Int) then (some (0, s0_1)) else (if 0 ≤ (wrap64 ((wrap64 (s0_1 + 1)) - 1)) then (if (wrap64 ((wrap64 (s0_1 + 1)) - 1)) < (s0_0.length : Int) then ((customsmade_Within.f (rd s0_0 (wrap64 ((wrap64 (s0_1 + 1)) - 1))) a1).bind fun t25002 => (some (t25002, wrap64 (s0_1 + 1)))) else (none)) else (none))) = some (r1, r2) := h
 clear h
 by_cases c3 : s0_1 ≥ (s0_0.length : Int)
 ·
  rw [if_pos c3] at H
  have c3b0 : decide ((s0_0.length : Int) ≤ s0_1) = true := decide_eq_true c3
  clear c3
  simp only [Option.some.injEq, Prod.mk.injEq] at H
  obtain ⟨rfl, rfl⟩ := H
  obtain ⟨ASz4_0, cSz4_0, HGz4, hgz4, HSz4_0⟩ := HI0.out
  have hcz4_0 := cellS55_0 HGz4
  have hcz4_1 := cellS55_1 HGz4
  have hfz4_1 := blk_frozen HGz4 1
  clear HGz4 hgz4
  go_enter Tryd.func25, Tryd.ntmps25
  go_wp2
  repeat (go_quiet (fail); try go_wp2)
  go_ret
  exact ⟨by first | rfl | (simp [errW_none, errW_some] <;> rfl) | (simp [*, errW_none, errW_some] <;> rfl), by repeat (first | (with_reducible first | exact HI0.out | apply IsS55.alloc | apply IsS55.drewN | apply IsS55.drew | apply IsS55.set_1) | exact HI0.out), by repeat (first | (with_reducible first | exact HB.out | apply bA | apply bN | apply b1 | refine bS ?_ (IsS55.ge HI0.out)) | exact HB.out), by repeat (first | (with_reducible first | exact HK.out | apply KeepBut.set_ | apply keep_drewN | apply keep_drew | apply keep_alloc) | exact HK.out)⟩
 ·
  rw [if_neg c3] at H
  have c3b0 : decide ((s0_0.length : Int) ≤ s0_1) = false := decide_eq_false c3
  clear c3
  obtain ⟨ji5, hji5⟩ : ∃ j_ : Int, (wrap64 ((wrap64 (s0_1 + 1)) - 1)) = j_ := ⟨_, rfl⟩
  replace H : (if 0 ≤ (ji5) then (if (ji5) < (s0_0.length : Int) then ((customsmade_Within.f (rd s0_0 (ji5)) a1).bind fun t25002 => (some (t25002, wrap64 (s0_1 + 1)))) else (none)) else (none)) = some (r1, r2) := by first | (rw [hji5] at H; exact H) | (simp only [hji5] at H ⊢; exact H)
  have hji5w : (IntKind.i64.wrap ((wrap64 (s0_1 + 1)) - 1)) = ji5 := (i64_w _).trans hji5
  by_cases c6 : 0 ≤ (ji5)
  ·
   rw [if_pos c6] at H
   have c6b0 : decide (0 ≤ (ji5)) = true := decide_eq_true c6
   clear c6
   replace H := if_some H; obtain ⟨c7, H⟩ := H
   have c7b0 : decide ((ji5) < (s0_0.length : Int)) = true := decide_eq_true c7
   clear c7
   replace H := Option.bind_eq_some_iff.mp H
   obtain ⟨t25002, A80, H⟩ := H
   replace H : (some (t25002, wrap64 (s0_1 + 1))) = some (r1, r2) := H
   have A8 := Aside0.mk A80
   clear A80
   simp only [Option.some.injEq, Prod.mk.injEq] at H
   obtain ⟨rfl, rfl⟩ := H
   obtain ⟨ASz9_0, cSz9_0, HGz9, hgz9, HSz9_0⟩ := HI0.out
   have hcz9_0 := cellS55_0 HGz9
   have hcz9_1 := cellS55_1 HGz9
   have hfz9_1 := blk_frozen HGz9 1
   clear HGz9 hgz9
   have p25001 : 0 ≤ ((ji5) : Int) := odt
   have q25001 : (ji5) < (s0_0.length : Int) := odt
   obtain ⟨ad25001, e25001, hx25001_0⟩ := Kd.at_int HSz9_0 (ji5) p25001 q25001
   cases e25001
   have hn25001_0 : ad25001.block ≠ g := Nat.ne_of_lt (Nat.lt_of_lt_of_le (by have := World.block_lt_of_cell? _ _ hx25001_0; first | rwa [add_block] at this | exact this) (IsS55.ge HI0.out))
   replace hx25001_0 := pw_cell_below HB.out hx25001_0
   replace hx25001_0 := (cell_far (p := ⟨g, 1, none⟩) (by first | (rw [add_block]; exact hn25001_0) | (show (Addr.add _ _).block ≠ _; rw [add_block]; exact hn25001_0) | exact hn25001_0) (.int .i64 (wrap64 (s0_1 + 1)))).trans hx25001_0
   (try have hy25001_0 := fun (n_ : Nat) => (show (((w.drewN n_).setCell ⟨g, 1, none⟩ (.int .i64 (wrap64 (s0_1 + 1))))).cell? _ = some _ from hx25001_0))
   clear hn25001_0
   replace p25001 := eq_true p25001
   replace q25001 := eq_true q25001
   go_enter Tryd.func25, Tryd.ntmps25
   go_wp2_with (first | (go_at_call 12; (with_reducible refine (customsmade_Within.calls (rd s0_0 (ji5)) a1 t25002 _ A8.out).mono ?_); rintro e w' ⟨rfl, ⟨nd, rfl⟩⟩; (try first | exact ⟨rfl, _, World.drewN_drewN _ _ _⟩ | exact ⟨rfl, _, Eq.trans (World.drewN_drewN _ _ _) (congrArg (World.drewN _) (Nat.add_assoc _ _ _))⟩)))
   repeat (go_quiet (first | (go_at_call 12; (with_reducible refine (customsmade_Within.calls (rd s0_0 (ji5)) a1 t25002 _ A8.out).mono ?_); rintro e w' ⟨rfl, ⟨nd, rfl⟩⟩; (try first | exact ⟨rfl, _, World.drewN_drewN _ _ _⟩ | exact ⟨rfl, _, Eq.trans (World.drewN_drewN _ _ _) (congrArg (World.drewN _) (Nat.add_assoc _ _ _))⟩))); try go_wp2_with (first | (go_at_call 12; (with_reducible refine (customsmade_Within.calls (rd s0_0 (ji5)) a1 t25002 _ A8.out).mono ?_); rintro e w' ⟨rfl, ⟨nd, rfl⟩⟩; (try first | exact ⟨rfl, _, World.drewN_drewN _ _ _⟩ | exact ⟨rfl, _, Eq.trans (World.drewN_drewN _ _ _) (congrArg (World.drewN _) (Nat.add_assoc _ _ _))⟩))))
   go_ret
   exact ⟨by first | rfl | (simp [errW_none, errW_some] <;> rfl) | (simp only [← hji5]; first | rfl | (simp [errW_none, errW_some] <;> rfl)) | (simp [*, errW_none, errW_some] <;> rfl), by repeat (first | (with_reducible first | exact HI0.out | apply IsS55.alloc | apply IsS55.drewN | apply IsS55.drew | apply IsS55.set_1) | exact HI0.out), by repeat (first | (with_reducible first | exact HB.out | apply bA | apply bN | apply b1 | refine bS ?_ (IsS55.ge HI0.out)) | exact HB.out), by repeat (first | (with_reducible first | exact HK.out | apply KeepBut.set_ | apply keep_drewN | apply keep_drew | apply keep_alloc) | exact HK.out)⟩
  ·
   rw [if_neg c6] at H
   exact absurd H (by simp)

end Go.Proofs.YtoolggpfgadjlaaDoor.Z
