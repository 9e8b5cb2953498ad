/- Written by a program of this session: each Go function as a plain Lean function, and that the machine's call does what it says. Conditions: none but those each theorem states. -/
import Derived.Test.YtfljnggpnndmkaaZ0
import Derived.Test.YtfljnggpnndmkaaZslicesGrowbytebyte
namespace Go.Proofs.Ytfljnggpnndmkaa.Z
open Go.RowKit Go.Proofs.YtfljnggpnndmkaaW.PrintWords Go.Proofs.YtfljnggpnndmkaaW.PrintLast Go.Proofs.YtfljnggpnndmkaaW.PrintMore
attribute [local go_sem] max2_int min2_int max_two min_two max_three min_three max_four min_four   -- for this text's walks alone
set_option linter.unusedVariables false
set_option linter.unusedSimpArgs false

/-! ### slices_Concat_byte_byte: function 65 -/
-- slices.Concat(x, y)
def slices_Concat_byte_byte.f (l0 : List Int) (l1 : List Int) : Option (List Int) := if l0.length + l1.length ≤ 140737488355328 then some (l0 ++ l1) else none
set_option maxHeartbeats 8000000 in
theorem slices_Concat_byte_byte.calls (A0 : Option Addr) (c0 : Nat) (l0 : List Int) (A1 : Option Addr) (c1 : Nat) (l1 : List Int) (r : List Int) (w : World)
    (hr0 : Kd.C (Kd.int .u8) w A0 l0.length l0) (hc0 : l0.length ≤ c0) (hr1 : Kd.C (Kd.int .u8) w A1 l1.length l1) (hc1 : l1.length ≤ c1) (h : slices_Concat_byte_byte.f l0 l1 = some r) (g : Nat)
    (hg : w.heap[g]? = some (.cells #[.slice A0 l0.length c0, .slice A1 l1.length c1] 22 (0, 0))) :
    Calls Try.prog 65 #[.slice (some ⟨g, 0, none⟩) 2 2] w fun e w' => ∃ v0_ : Value, e = .returned (v0_) ∧ Kd.R (Kd.int .u8) 5 w' w.heap.size (fun _ => True) v0_ r ∧ Below w.heap.size w w' := by
  unfold slices_Concat_byte_byte.f at h
  split at h
  case isFalse => cases h
  case isTrue hl =>
  obtain rfl := Option.some.inj h
  clear h
  have k0 : w.cell? ⟨g, 0, none⟩ = some (.slice A0 l0.length c0) := (blk_cell hg 0).trans rfl
  have k1 : w.cell? ⟨g, 1, none⟩ = some (.slice A1 l1.length c1) := (blk_cell hg 1).trans rfl
  have HG := Aside0.mk hg
  have HR0 := Aside0.mk hr0
  have HR1 := Aside0.mk hr1
  have HL := Aside0.mk hl
  have e0 : ((l0.length : Int)) ≤ 140737488355328 := by omega
  have e1 : ((l1.length : Int)) ≤ 140737488355328 := by omega
  have e2 : ((l0.length : Int)) + (l1.length : Int) ≤ 140737488355328 := by omega
  clear hg hr0 hr1 hl
  go_enter Try.func65, Try.ntmps65
  go_wp2
  go_loop [3, 11] (fun s i => (i = .int .i64 0 ∧ s = .int .i64 0) ∨ (i = .int .i64 1 ∧ s = .int .i64 (l0.length : Int)) ∨ (i = .int .i64 2 ∧ s = .int .i64 ((l0.length : Int) + (l1.length : Int)))) (fun _ i => 2 - (intOf i).toNat)
  case atStart => exact .inl ⟨rfl, rfl⟩
  case round =>
    rcases hrel with ⟨rfl, rfl⟩ | ⟨rfl, rfl⟩ | ⟨rfl, rfl⟩
    · go_wp2
      go_round
      case rel => exact .inr (.inl ⟨rfl, rfl⟩)
      case measure => simp [intOf]
    · go_wp2
      go_round
      case rel => exact .inr (.inr ⟨rfl, rfl⟩)
      case measure => simp [intOf]
    · go_wp2_with (go_at_call 78; refine (slices_Grow_byte_byte.of_nil _ (by omega) (by omega) _).mono ?_; rintro e w1 ⟨v, rfl, hv, hb⟩)
      have HB1 := Aside0.mk hb
      have HV := Aside0.mk hv
      clear hv hb k0 k1
      go_loopw [6, 27] (fun v i wr => Aside0 (Below w.heap.size w wr) ∧ ((i = .int .i64 0 ∧ Aside0 (Kd.R (Kd.int .u8) 5 wr w.heap.size (fun _ => True) v [])) ∨ (i = .int .i64 1 ∧ Aside0 (Kd.R (Kd.int .u8) 5 wr w.heap.size (fun _ => True) v l0)) ∨ (i = .int .i64 2 ∧ Aside0 (Kd.R (Kd.int .u8) 5 wr w.heap.size (fun _ => True) v (l0 ++ l1))))) (fun _ i _ => 2 - (intOf i).toNat)
      case atStart => exact ⟨HB1, .inl ⟨rfl, HV⟩⟩
      case round =>
        clear HV HB1
        obtain ⟨HB, hrel⟩ := hrel
        have k0 : wr.cell? ⟨g, 0, none⟩ = some (.slice A0 l0.length c0) := (HB.out.cell (p := ⟨g, 0, none⟩) (blk_lt HG.out)).trans ((blk_cell HG.out 0).trans rfl)
        have k1 : wr.cell? ⟨g, 1, none⟩ = some (.slice A1 l1.length c1) := (HB.out.cell (p := ⟨g, 1, none⟩) (blk_lt HG.out)).trans ((blk_cell HG.out 1).trans rfl)
        rcases hrel with ⟨rfl, HV⟩ | ⟨rfl, HV⟩ | ⟨rfl, HV⟩
        · go_wp2_with (first
            | ((with_reducible refine gate_builtin (b := .append) (xs := #[.tmp 31, .tmp 32]) rfl ?_); at_builtin; refine Kd.R_append_rows (Kd.int .u8) (w0 := w) w.heap.size rfl (.tmp 31) (.tmp 32) 22 5 (.int .u8 0) 1 rfl Try.underlying22 info5 rfl (by decide) (by omega) _ [] l0 _ _ _ (fun _ => True) (fun _ => False) rfl rfl HV.out ?aR (fun _ _ h => h) (fun _ h => h.elim) (fun _ _ => trivial) HB.out HB.out.size ?aL ?_; (case aR => exact Kd.C_below HR0.out HB.out); (case aL => have := HL.out; simp; omega); intro v2 w2 hv2 hb2 hg2 ha2; have HV2 := Aside0.mk hv2; have HB2 := Aside0.mk hb2; clear hv2 hb2 hg2 ha2))
          go_roundw
          case rel => exact ⟨HB2, .inr (.inl ⟨rfl, HV2⟩)⟩
          case measure => simp [intOf]
        · go_wp2_with (first
            | ((with_reducible refine gate_builtin (b := .append) (xs := #[.tmp 31, .tmp 32]) rfl ?_); at_builtin; refine Kd.R_append_rows (Kd.int .u8) (w0 := w) w.heap.size rfl (.tmp 31) (.tmp 32) 22 5 (.int .u8 0) 1 rfl Try.underlying22 info5 rfl (by decide) (by omega) _ l0 l1 _ _ _ (fun _ => True) (fun _ => False) rfl rfl HV.out ?aR (fun _ _ h => h) (fun _ h => h.elim) (fun _ _ => trivial) HB.out HB.out.size ?aL ?_; (case aR => exact Kd.C_below HR1.out HB.out); (case aL => have := HL.out; simp; omega); intro v2 w2 hv2 hb2 hg2 ha2; have HV2 := Aside0.mk hv2; have HB2 := Aside0.mk hb2; clear hv2 hb2 hg2 ha2))
          go_roundw
          case rel => exact ⟨HB2, .inr (.inr ⟨rfl, HV2⟩)⟩
          case measure => simp [intOf]
        · go_wp2
          go_ret
          exact ⟨_, rfl, HV.out, HB.out⟩

end Go.Proofs.Ytfljnggpnndmkaa.Z
