/- Written by a program of this session: each Go function as a plain Lean function, and that the machine's call does what it says. Conditions: none but those each theorem states. -/
import Derived.Test.YtfljnggpnndmkaaZ0
import Derived.Test.YtfljnggpnndmkaaZmessageChecksum
namespace Go.Proofs.Ytfljnggpnndmkaa.Z
open Go.RowKit Go.Proofs.YtfljnggpnndmkaaW.PrintWords Go.Proofs.YtfljnggpnndmkaaW.PrintLast Go.Proofs.YtfljnggpnndmkaaW.PrintMore
attribute [local go_sem] max2_int min2_int max_two min_two max_three min_three max_four min_four   -- for this text's walks alone
set_option linter.unusedVariables false
set_option linter.unusedSimpArgs false

/-! ### journal_sum: function 76 -/
def journal_sum.f (k : Nat) (l0 : List Int) : Option (List Int) := (message_Checksum.f k l0).bind fun t76001 => (some (([(t76001 / 16777216) % 256, (t76001 / 65536) % 256, (t76001 / 256) % 256, (t76001) % 256] : List Int)))
theorem journal_sum.mono : ∀ a0 k, LeO (journal_sum.f k a0) (journal_sum.f (k + 1) a0) := by
  intro a0 k
  unfold journal_sum.f
  repeat' first
      | (with_reducible exact message_Checksum.mono _ _)
      | (with_reducible exact LeO.refl _)
      | (with_reducible exact LeO.none _)
      | (with_reducible refine LeO.ite ?_ ?_)
      | (with_reducible refine LeO.bind ?_ (fun _ => ?_))
      | exact message_Checksum.mono _ _
      | exact LeO.none _
      | refine LeO.ite ?_ ?_
      | refine LeO.bind ?_ (fun _ => ?_)
set_option maxHeartbeats 8000000 in
set_option maxRecDepth 100000 in
theorem journal_sum.calls (k : Nat) (A0 : Option Addr) (c0 : Nat) (l0 : List Int) (r : List Int) (w : World) (hr0 : Kd.C (Kd.int .u8) w A0 l0.length l0) (hc0 : l0.length ≤ c0) (h : journal_sum.f k l0 = some r) :
    Calls Try.prog 76 #[.slice A0 l0.length c0] w fun e w' => ∃ v0_ : Value, e = .returned (v0_) ∧ Kd.R (Kd.int .u8) 5 w' w.heap.size (fun _ => True) v0_ r ∧ Below w.heap.size w w' := by
  have HR0 := Aside0.mk hr0
  have HC0 := Aside0.mk hc0
  clear hr0 hc0
  have HB := Aside0.mk (Below.refl w.heap.size w)
  have H : ((message_Checksum.f k l0).bind fun t76001 => (some (([(t76001 / 16777216) % 256, (t76001 / 65536) % 256, (t76001 / 256) % 256, (t76001) % 256] : List Int)))) = some r := h
  clear h
  replace H := Option.bind_eq_some_iff.mp H
  obtain ⟨t76001, A20, H⟩ := H
  try dsimp only at H
  have A2 := Aside0.mk A20
  clear A20
  obtain ⟨y76002, hy76002⟩ : ∃ y_ : List Int, y_ = (([(t76001 / 16777216) % 256, (t76001 / 65536) % 256, (t76001 / 256) % 256, (t76001) % 256] : List Int)) := ⟨_, rfl⟩
  replace H : (some y76002) = some r := by first | (rw [hy76002]; with_reducible exact H) | (have H2_ := (Option.bind_some _ _).symm.trans H; rw [hy76002]; with_reducible exact H2_) | (have H2_ := (Option.bind_some _ _).symm.trans H; with_reducible exact H2_) | with_reducible exact H | (rw [hy76002]; exact H) | exact H
  have Ny76002 := Aside0.mk hy76002
  clear hy76002
  obtain rfl := Option.some.inj H
  go_enter Try.func76, Try.ntmps76
  go_wp2_with (first | ((with_reducible refine gate_callee (f := 80) rfl ?_); refine goesL_ (some 5) rfl rfl Try.func80 (by kernel_rfl) rfl #[.slice A0 l0.length c0] rfl (by (try simp only [List.map_toArray, List.map_cons, List.map_nil]); first | done | rfl | (simp only [List.length_drop, List.length_take]; rfl)) ?_; (with_reducible refine (message_Checksum.calls k _ _ l0 t76001 _ ?side1 ?side2 A2.out).mono ?_); (case side1 => repeat (first | exact HR0.out | (with_reducible refine Kd.C_alloc ?_ _) | (with_reducible refine Kd.C_drewN ?_ _) | (with_reducible refine Kd.C_drew ?_))); (case side2 => exact HC0.out); rintro e w' ⟨rfl, ⟨nd, rfl⟩⟩; refine ⟨_, rfl, ?_⟩) | ((with_reducible refine gate_dst (N := 17) rfl ?_); refine Kd.R_lit (Kd.int .u8) _ 5 ?hg (N := 17) ?hd (xs := ([(t76001 / 16777216) % 256, (t76001 / 65536) % 256, (t76001 / 256) % 256, (t76001) % 256] : List Int)) (inner := [.int .u8 ((t76001 / 16777216) % 256), .int .u8 ((t76001 / 65536) % 256), .int .u8 ((t76001 / 256) % 256), .int .u8 ((t76001) % 256)]) (ok := fun _ => True) (okp := fun _ => True) ?hr ?hp (fun _ hk => hk) trivial (Below.refl _ _) (Nat.le_refl _) (by simp) ?_; (case hd => rfl); (case hg => rfl); (case hr => first | (go_simp; done) | (go_simp; rfl)); (case hp => exact (Reps.one (show Kd.M (Kd.int .u8) _ _ _ ((t76001 / 16777216) % 256) [.int .u8 ((t76001 / 16777216) % 256)] from rfl) (Reps.one (show Kd.M (Kd.int .u8) _ _ _ ((t76001 / 65536) % 256) [.int .u8 ((t76001 / 65536) % 256)] from rfl) (Reps.one (show Kd.M (Kd.int .u8) _ _ _ ((t76001 / 256) % 256) [.int .u8 ((t76001 / 256) % 256)] from rfl) (Reps.one (show Kd.M (Kd.int .u8) _ _ _ ((t76001) % 256) [.int .u8 ((t76001) % 256)] from rfl) (Reps.none _ _)))))); intro v76003 w3 ho4 hb hg_ hnew_; clear hg_ hnew_; (first | rw [← Ny76002.out] at ho4 | (simp only [Int.reduceToNat] at ho4; rw [← Ny76002.out] at ho4)); have n0_ := Aside0.mk (Kd.R_lower ho4 (below_size (below_ext HB.out))); have HO76004 := n0_; replace HB := mvH HB hb; clear n0_; clear hb ho4))
  go_ret
  exact ⟨_, by first | rfl | (simp [errW_none, errW_some] <;> rfl) | (simp [*, errW_none, errW_some] <;> rfl), Kd.R_ext HO76004.out, below_ext HB.out⟩

end Go.Proofs.Ytfljnggpnndmkaa.Z
