/- Written by a program of this session: each Go function as a plain Lean function, and that the machine's call does what it says. Conditions: none but those each theorem states. -/
import Derived.Test.YtfljnggpnndmkaaZ0
import Derived.Test.YtfljnggpnndmkaaZcustomslaw38awake
import Derived.Test.YtfljnggpnndmkaaZcustomslaw38play
namespace Go.Proofs.Ytfljnggpnndmkaa.Z
open Go.RowKit Go.Proofs.YtfljnggpnndmkaaW.PrintWords Go.Proofs.YtfljnggpnndmkaaW.PrintLast Go.Proofs.YtfljnggpnndmkaaW.PrintMore
attribute [local go_sem] max2_int min2_int max_two min_two max_three min_three max_four min_four   -- for this text's walks alone
set_option linter.unusedVariables false
set_option linter.unusedSimpArgs false

/-! ### customslaw38_ChannelSafe: function 8 -/
def customslaw38_ChannelSafe.f (k : Nat) (l0 : List Int) : Option (Bool) := (customslaw38_play.f k l0).bind fun bt8001 => (if bt8001.2.2.2.2.2 = true then ((customslaw38_awake.f k).bind fun t8012 => (some t8012)) else (none))
theorem customslaw38_ChannelSafe.mono : ∀ a0 k, LeO (customslaw38_ChannelSafe.f k a0) (customslaw38_ChannelSafe.f (k + 1) a0) := by
  intro a0 k
  unfold customslaw38_ChannelSafe.f
  repeat' first
      | (with_reducible exact customslaw38_awake.mono _)
      | (with_reducible exact customslaw38_play.mono _ _)
      | (with_reducible exact LeO.refl _)
      | (with_reducible exact LeO.none _)
      | (with_reducible refine LeO.ite ?_ ?_)
      | (with_reducible refine LeO.bind ?_ (fun _ => ?_))
      | exact customslaw38_awake.mono _
      | exact customslaw38_play.mono _ _
      | exact LeO.none _
      | refine LeO.ite ?_ ?_
      | refine LeO.bind ?_ (fun _ => ?_)
set_option maxHeartbeats 8000000 in
set_option maxRecDepth 100000 in
theorem customslaw38_ChannelSafe.calls (k : Nat) (A0 : Option Addr) (c0 : Nat) (l0 : List Int) (r : Bool) (w : World) (hr0 : Kd.C (Kd.int .i64) w A0 l0.length l0) (hc0 : l0.length ≤ c0) (h : customslaw38_ChannelSafe.f k l0 = some r) :
    Calls Try.prog 8 #[.slice A0 l0.length c0] w fun e w' => e = .returned (.bool r) ∧ Below w.heap.size w w' := by
  have hu44 := Try.underlying44
  have HR0 := Aside0.mk hr0
  have HC0 := Aside0.mk hc0
  clear hr0 hc0
  have HB := Aside0.mk (Below.refl w.heap.size w)
  have H : ((customslaw38_play.f k l0).bind fun bt8001 => (if bt8001.2.2.2.2.2 = true then ((customslaw38_awake.f k).bind fun t8012 => (some t8012)) else (none))) = some r := h
  clear h
  replace H := Option.bind_eq_some_iff.mp H
  obtain ⟨⟨t8001, t8002, t8005, t8008, t8009, t8010⟩, A20, H⟩ := H
  try dsimp only at H
  have A2 := Aside0.mk A20
  clear A20
  by_cases c3 : t8010 = true
  · subst c3
    have H1 : ((customslaw38_awake.f k).bind fun t8012 => (some t8012)) = some r := by rw [if_pos rfl] at H; exact H
    clear H
    have H := H1
    clear H1
    replace H := Option.bind_eq_some_iff.mp H
    obtain ⟨t8012, A40, H⟩ := H
    try dsimp only at H
    have A4 := Aside0.mk A40
    clear A40
    obtain rfl := Option.some.inj H
    go_enter Try.func8, Try.ntmps8
    go_wp2_with (first | ((with_reducible refine gate_callee (f := 36) rfl ?_); refine goesL_ (some 9) rfl rfl Try.func36 (by kernel_rfl) rfl #[.slice A0 l0.length c0] rfl (by (try simp only [List.map_toArray, List.map_cons, List.map_nil]); first | done | rfl | (simp only [List.length_drop, List.length_take]; rfl)) ?_; (with_reducible refine (customslaw38_play.calls k _ _ l0 t8001 t8002 t8005 t8008 t8009 true _ ?side1 ?side2 A2.out).mono ?_); (case side1 => repeat (first | exact HR0.out | (with_reducible refine Kd.C_alloc ?_ _) | (with_reducible refine Kd.C_drewN ?_ _) | (with_reducible refine Kd.C_drew ?_))); (case side2 => exact HC0.out); rintro e w5 ⟨v8003, v8006, rfl, ho0, ho1, hb⟩; refine ⟨_, rfl, ?_⟩; have n0_ := Aside0.mk (Kd.R_lower ho0 (below_size (below_ext HB.out))); have n1_ := Aside0.mk (Kd.R_lower ho1 (below_size (below_ext HB.out))); have HO8004 := n0_; have HO8007 := n1_; replace HB := mvH HB hb; clear n0_ n1_; (try clear hb); (try clear hb2); (try clear hk); (try clear hi); (try clear ho0); (try clear ho1)) | ((with_reducible refine gate_dst (N := 3) rfl ?_); refine box_event ?hg (N := 3) ?hd (cs := #[.int .i64 0, .slice none 0 0, .slice none 0 0]) (t := 44) ?hr ?_; (case hd => rfl); (case hg => rfl); (case hr => first | (go_simp; done) | (go_simp; rfl)); intro gb8011 hg w6 hbox hb; have n3_ := Aside0.mk (hbox); have n4_ := Aside0.mk ((by rw [hg]; exact (below_size (below_ext HB.out)) : w.heap.size ≤ gb8011)); have n5_ := Aside0.mk ((by rw [hg]; exact (below_size (below_ext HB.out)) : w.heap.size ≤ gb8011)); have BK8011 := n3_; have GW8011 := n4_; have GE8011 := n5_; have GI8011 := GE_.mk GE8011.out; replace HO8004 := mvR HO8004 hb; replace HO8007 := mvR HO8007 hb; replace HB := mvH HB hb; clear n3_ n4_ n5_; clear hb hbox hg; have hcz7_0 : w6.cell? ⟨gb8011, 0, none⟩ = some (.int .i64 0) := (blk_cell BK8011.out 0).trans rfl; have hcz7_1 : w6.cell? ⟨gb8011, 1, none⟩ = some (.slice none 0 0) := (blk_cell BK8011.out 1).trans rfl; have hcz7_2 : w6.cell? ⟨gb8011, 2, none⟩ = some (.slice none 0 0) := (blk_cell BK8011.out 2).trans rfl; have hfz7_0 := blk_frozen BK8011.out 0; have hfz7_1 := blk_frozen BK8011.out 1; have hfz7_2 := blk_frozen BK8011.out 2; obtain ⟨Ao8, co8, eo8⟩ := Kd.R_slice HO8004.out; subst eo8; obtain ⟨Ao9, co9, eo9⟩ := Kd.R_slice HO8007.out; subst eo9) | (go_at_call 32; (with_reducible refine (customslaw38_awake.calls k  t8012 _ A4.out).mono ?_); rintro e w10 ⟨rfl, hb⟩; have n0_ := Aside0.mk (Kd.R_below (Kd.R_ext ((Kd.R_mono (Kd.R_far (p := ⟨gb8011, 2, none⟩) (Kd.R_far (p := ⟨gb8011, 1, none⟩) (Kd.R_far (p := ⟨gb8011, 0, none⟩) (Kd.R_types HO8004.out BK8011.out (by decide)) (fun _ hk => hk.2) (.int .i64 t8001)) (fun _ hk => hk.2) (.slice Ao8 t8002.length co8)) (fun _ hk => hk.2) (.slice Ao9 t8005.length co9)) (fun _ h_ => h_.1)))) hb); have n1_ := Aside0.mk (Kd.R_below (Kd.R_ext ((Kd.R_mono (Kd.R_far (p := ⟨gb8011, 2, none⟩) (Kd.R_far (p := ⟨gb8011, 1, none⟩) (Kd.R_far (p := ⟨gb8011, 0, none⟩) (Kd.R_types HO8007.out BK8011.out (by decide)) (fun _ hk => hk.2) (.int .i64 t8001)) (fun _ hk => hk.2) (.slice Ao8 t8002.length co8)) (fun _ hk => hk.2) (.slice Ao9 t8005.length co9)) (fun _ h_ => h_.1)))) hb); have n2_ := Aside0.mk (blk_below (g := gb8011) (o := .cells #[.int .i64 t8001, .slice Ao8 t8002.length co8, .slice Ao9 t8005.length co9] 44 (0, 0)) (by (with_reducible repeat (first | refine blk_drewN ?_ _ | refine blk_drew ?_ | refine blk_alloc ?_ _)); refine blk_put (cs := #[.int .i64 t8001, .slice Ao8 t8002.length co8, .slice none 0 0]) ?_ 2 _ rfl; (with_reducible repeat (first | refine blk_drewN ?_ _ | refine blk_drew ?_ | refine blk_alloc ?_ _)); refine blk_put (cs := #[.int .i64 t8001, .slice none 0 0, .slice none 0 0]) ?_ 1 _ rfl; (with_reducible repeat (first | refine blk_drewN ?_ _ | refine blk_drew ?_ | refine blk_alloc ?_ _)); refine blk_put (cs := #[.int .i64 0, .slice none 0 0, .slice none 0 0]) ?_ 0 _ rfl; exact blk_ext BK8011.out) hb); clear HO8004; clear HO8007; clear BK8011; have HO8004 := n0_; have HO8007 := n1_; have BK8011 := n2_; replace HB := mvH HB hb; clear n0_ n1_ n2_; (try clear hb); (try clear hb2); (try clear hk); (try clear hi)))
    go_ret
    exact ⟨by first | rfl | (simp [errW_none, errW_some] <;> rfl) | (simp [*, errW_none, errW_some] <;> rfl), below_extB HB.out⟩
  · replace c3 := Bool.eq_false_iff.mpr c3
    subst c3
    have H1 : (none) = some r := by rw [if_neg (show ¬ (false = true) by decide)] at H; exact H
    clear H
    have H := H1
    clear H1
    exact absurd H (by simp)

/-- THE ONE PURE STATEMENT of customslaw38_ChannelSafe: yours. -/
def customslaw38_ChannelSafe.Pure : Prop := ∀ (l0 : List Int), l0.length ≤ maxLen → l0.length * 8 ≤ 140737488351232 → (∀ x ∈ l0, (Lit.int .i64 x).wf = true) → ∃ k, customslaw38_ChannelSafe.f k l0 = some true
theorem customslaw38_ChannelSafe.walk (P : customslaw38_ChannelSafe.Pure) (a0 : Option Addr) (len0 cap0 : Nat) (z0 : List Int) (w : World) (w0 : (a0 = none ∧ len0 = 0 ∧ cap0 = 0 ∧ z0 = []) ∨ ∃ x, a0 = some x ∧ len0 ≤ cap0 ∧ cap0 ≤ maxLen ∧ z0.length = cap0 ∧ (∀ i, i < z0.length → w.cell? (x.add i) = some (.int .i64 (z0.getD i 0))) ∧ ∀ n ∈ z0, (Lit.int .i64 n).wf = true) (y0 : len0 * 8 ≤ 140737488351232) :
    Calls Try.prog 8 #[.slice a0 len0 cap0] w fun e w' => e = .returned (.bool true) ∧ Below w.heap.size w w' := by
  obtain ⟨l0, rfl, hr0, hm0, hw0, hc0⟩ := ReadsInt.ofRowC w0
  obtain ⟨k, h⟩ := P l0 hm0 y0 hw0
  refine (customslaw38_ChannelSafe.calls k _ _ l0 true w (Kd.C_of_reads (d := (0 : Int)) (h1 := fun _ => rfl) hr0) hc0 h).mono ?_
  rintro e w' ⟨rfl, hd⟩
  exact ⟨rfl, hd⟩

end Go.Proofs.Ytfljnggpnndmkaa.Z
