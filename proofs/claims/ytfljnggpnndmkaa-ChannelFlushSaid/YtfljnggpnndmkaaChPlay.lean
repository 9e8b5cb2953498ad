/- What customslaw38.play computes. Conditions: those each theorem states. -/
import Derived.Test.YtfljnggpnndmkaaChFns
import Derived.Test.YtfljnggpnndmkaaZcustomslaw38play
import Derived.Test.YtfljnggpnndmkaaChAwake
namespace Go.Proofs.Ytfljnggpnndmkaa.Pure
open Go.RowKit Go.Proofs.YtfljnggpnndmkaaW.PrintWords Go.Proofs.YtfljnggpnndmkaaW.PrintLast Go.Proofs.YtfljnggpnndmkaaW.PrintMore Go.Proofs.Ytfljnggpnndmkaa.Opening
set_option linter.unusedVariables false
set_option linter.unusedSimpArgs false
def PI (a s r i : Int) (W B : List Int) : Prop := (0 ≤ a ∧ a ≤ r ∧ r ≤ s ∧ s ≤ i) ∧ (∀ x ∈ W, x ≤ s) ∧ (∀ x ∈ B, x ≤ r) ∧ (W.length : Int) ≤ 220 + i ∧ (B.length : Int) ≤ i
theorem PI.mono {a s r i i' : Int} {W B : List Int} (h : PI a s r i W B) (hi : i ≤ i') : PI a s r i' W B :=
  ⟨⟨h.1.1, h.1.2.1, h.1.2.2.1, by have := h.1.2.2.2; omega⟩, h.2.1, h.2.2.1, by have := h.2.2.2.1; omega, by have := h.2.2.2.2; omega⟩
def PG (f : Nat → Option (Int × List Int × List Int × Int × Int × Bool)) : Prop := ∃ a s r W B, Ev f (a, W, B, s, r, true) ∧ PI a s r 120 W B
theorem PG.congr {f g : Nat → Option (Int × List Int × List Int × Int × Int × Bool)} (h : ∀ k, f k = g k) (hg : PG g) : PG f := by
  obtain ⟨a, s, r, W, B, e, p⟩ := hg
  exact ⟨a, s, r, W, B, Ev.congr h e, p⟩
theorem PG.step {f g : Nat → Option (Int × List Int × List Int × Int × Int × Bool)} (h : ∀ k, f (k + 1) = g k) (hg : PG g) : PG f := by
  obtain ⟨a, s, r, W, B, e, p⟩ := hg
  exact ⟨a, s, r, W, B, Ev.step h e, p⟩
theorem PG.pos {c : Prop} [Decidable c] {f g : Nat → Option (Int × List Int × List Int × Int × Int × Bool)} (h : c) (hf : PG f) : PG (fun k => if c then f k else g k) := hf.congr (fun k => if_pos h)
theorem PG.neg {c : Prop} [Decidable c] {f g : Nat → Option (Int × List Int × List Int × Int × Int × Bool)} (h : ¬ c) (hg : PG g) : PG (fun k => if c then f k else g k) := hg.congr (fun k => if_neg h)
theorem PG.bind {α : Type} {f : Nat → Option α} {x : α} {g : Nat → α → Option (Int × List Int × List Int × Int × Int × Bool)} (hf : Ev f x) (hg : PG (fun k => g k x)) : PG (fun k => (f k).bind (g k)) := by
  obtain ⟨a, s, r, W, B, e, p⟩ := hg
  exact ⟨a, s, r, W, B, Ev.bind hf e, p⟩
theorem PG.some {α : Type} {x : α} {g : Nat → α → Option (Int × List Int × List Int × Int × Int × Bool)} (hg : PG (fun k => g k x)) : PG (fun k => (some x).bind (g k)) := hg.congr (fun k => rfl)
theorem next_eq (L : List Int) (i n : Int) (h0 : 0 ≤ i) (h1 : i ≤ (L.length : Int)) (hL : L.length ≤ 1000000) (hn : n ≠ 0) : ∃ v i', Z.customsmade_Source_Next.f L i n = some (v, i') ∧ i ≤ i' ∧ i' ≤ (L.length : Int) ∧ (i < (L.length : Int) → i' = i + 1) := by
  simp only [Z.customsmade_Source_Next.f]
  by_cases h : i ≥ (L.length : Int)
  · rw [if_pos h]
    exact ⟨_, _, rfl, by omega, by omega, by omega⟩
  · rw [if_neg h, wrap64_id (i + 1) (by omega), wrap64_id (i + 1 - 1) (by omega), if_pos (by omega), if_pos (by omega), Z.customsmade_Within.f, if_neg hn, Option.bind_some]
    exact ⟨_, _, rfl, by omega, by omega, by omega⟩
theorem rd_mem (l : List Int) (i : Int) (h0 : 0 ≤ i) (h1 : i < (l.length : Int)) : rd l i ∈ l := by
  simp only [rd]
  rw [List.getD_eq_getElem?_getD, List.getElem?_eq_getElem (by omega)]
  exact List.getElem_mem _
theorem erase_mem {l : List Int} {i : Nat} {x : Int} (h : x ∈ l.eraseIdx i) : x ∈ l := List.mem_of_mem_eraseIdx h
theorem erase_len (l : List Int) (i : Nat) : (l.eraseIdx i).length ≤ l.length := List.length_eraseIdx_le l i
theorem j3_good (L : List Int) {s r e a i a2 : Int} {W B W2 B2 : List Int} (h0 : e = 0 → PI a2 s r i W2 B2 ∧ PG (fun k => Z.customslaw38_play.l0 k s r a2 W2 B2 L i)) (h1 : e ≠ 0 → PI a s r i W B ∧ PG (fun k => Z.customslaw38_play.l0 k s r a W B L i)) :
    PG (fun k => Z.customslaw38_play.j3 k s r e a W B L i a2 W2 B2) := by
  refine PG.step (fun k => by rw [Z.customslaw38_play.j3]) ?_
  by_cases he : e = 0
  · obtain ⟨p, g⟩ := h0 he
    have := p.1
    exact PG.pos he (PG.neg (by omega) (PG.neg (by omega) g))
  · obtain ⟨p, g⟩ := h1 he
    have := p.1
    exact PG.neg he (PG.neg (by omega) (PG.neg (by omega) g))
theorem PI.dl {a s r i i' : Int} {W B : List Int} (p : PI a s r i W B) (hi : i < i') (j : Int) (h : (0 ≤ j ∧ j < (W.length : Int)) ∧ (0 ≤ r ∧ r ≤ 1000000)) :
    PI a s (if rd W j = r + 1 then r + 1 else r) i' (W.eraseIdx j.toNat) (B ++ [if rd W j = r + 1 then r + 1 else r]) := by
  obtain ⟨⟨p1, p2, p3, p4⟩, p5, p6, p7, p8⟩ := p
  have hm := p5 _ (rd_mem W j h.1.1 h.1.2)
  have hl := erase_len W j.toNat
  by_cases hn : rd W j = r + 1
  · simp only [if_pos hn]
    refine ⟨⟨p1, by omega, by omega, by omega⟩, fun x hx => p5 x (erase_mem hx), fun x hx => ?_, by omega, by rw [List.length_append, List.length_singleton]; omega⟩
    rcases List.mem_append.1 hx with hx | hx
    · have := p6 x hx
      omega
    · rw [List.mem_singleton.1 hx]
      omega
  · simp only [if_neg hn]
    refine ⟨⟨p1, by omega, by omega, by omega⟩, fun x hx => p5 x (erase_mem hx), fun x hx => ?_, by omega, by rw [List.length_append, List.length_singleton]; omega⟩
    rcases List.mem_append.1 hx with hx | hx
    · exact p6 x hx
    · rw [List.mem_singleton.1 hx]
      omega
theorem PI.tr {a s r i i' : Int} {W B : List Int} (p : PI a s r i W B) (hi : i ≤ i') (hb : i ≤ 120) (hw : (W.length : Int) < 100) : PI a s r i' (W ++ upTo a s) B := by
  obtain ⟨⟨p1, p2, p3, p4⟩, p5, p6, p7, p8⟩ := p
  refine ⟨⟨p1, p2, p3, by omega⟩, fun x hx => ?_, p6, by rw [List.length_append, upTo, upN_length]; omega, by omega⟩
  rcases List.mem_append.1 hx with hx | hx
  · exact p5 x hx
  · have := upN_mem _ _ _ hx
    omega
theorem mx_le {a b r : Int} (h : a ≤ r) (h2 : b ≤ r) : a ≤ mx a b ∧ mx a b ≤ r := by
  simp only [mx]
  split <;> omega
theorem play_loop (L : List Int) (hL : L.length ≤ 120) : ∀ (n : Nat) (s r a : Int) (W B : List Int) (i : Int), (L.length : Int) - i ≤ n → 0 ≤ i → i ≤ (L.length : Int) → PI a s r i W B →
    PG (fun k => Z.customslaw38_play.l0 k s r a W B L i) := by
  intro n
  induction n with
  | zero =>
    intro s r a W B i hn h0 hi p
    refine PG.step (fun k => by rw [Z.customslaw38_play.l0, Z.customsmade_Source_Left.f]) ?_
    refine PG.some ?_
    refine PG.neg (by simp only [decide_eq_true_eq]; omega) ?_
    exact ⟨a, s, r, W, B, Ev.now _, p.mono (by omega)⟩
  | succ n ih =>
    intro s r a W B i hn h0 hi p
    refine PG.step (fun k => by rw [Z.customslaw38_play.l0, Z.customsmade_Source_Left.f]) ?_
    refine PG.some ?_
    by_cases hi3 : (L.length : Int) ≤ i
    · refine PG.neg (by simp only [decide_eq_true_eq]; omega) ?_
      exact ⟨a, s, r, W, B, Ev.now _, p.mono (by omega)⟩
    have hi2 : i < (L.length : Int) := by omega
    refine PG.pos (by simp only [decide_eq_true_eq]; omega) ?_
    have go : ∀ (s r a : Int) (W B : List Int) (i' : Int), i < i' → i' ≤ (L.length : Int) → PI a s r i' W B → PI a s r i' W B ∧ PG (fun k => Z.customslaw38_play.l0 k s r a W B L i') :=
      fun s r a W B i' h1 h2 q => ⟨q, ih s r a W B i' (by omega) (by omega) h2 q⟩
    obtain ⟨v, i1, e1, g1, g2, g3⟩ := next_eq L i 8 h0 hi (by omega) (by decide)
    have g4 := g3 hi2
    rw [e1]
    refine PG.some ?_
    dsimp only
    have pW := p.2.2.2.1
    have pB := p.2.2.2.2
    have p1 := p.1
    have keep : ∀ i', i < i' → i' ≤ (L.length : Int) → PI a s r i' W B ∧ PG (fun k => Z.customslaw38_play.l0 k s r a W B L i') := fun i' h1 h2 => go s r a W B i' h1 h2 (p.mono (by omega))
    by_cases v0 : v = 0
    · refine PG.pos v0 ?_
      rw [wrap64_id (s + 1) (by omega)]
      refine j3_good L (fun _ => go (s + 1) r a W B i1 (by omega) g2 ?_) (fun h => absurd rfl h)
      exact ⟨⟨p1.1, p1.2.1, by omega, by omega⟩, fun x hx => by have := p.2.1 x hx; omega, p.2.2.1, by omega, by omega⟩
    refine PG.neg v0 ?_
    have J1 : ∀ b : Bool, (b = false → PG (fun k => if v = 3 then Z.customslaw38_play.j2 k s r v (v == 3) a W B L i1 else Z.customslaw38_play.j2 k s r v (v == 4) a W B L i1)) → PG (fun k => Z.customslaw38_play.j1 k s r 0 v b a W B L i1 a W B) := by
      intro b hb
      refine PG.step (fun k => by rw [Z.customslaw38_play.j1]) ?_
      by_cases b1 : b = true
      · refine PG.pos b1 ?_
        by_cases hw : (W.length : Int) < 100
        · refine PG.pos hw ?_
          refine PG.bind (transmit_ev a W B s (by omega) (by omega) (by omega)) ?_
          refine j3_good L (fun h => ?_) (fun _ => keep i1 (by omega) g2)
          unfold tr at h ⊢
          by_cases c1 : a < 0 ∨ s < a ∨ s > 1000000
          · rw [if_pos c1] at h
            exact absurd h (by decide)
          by_cases c2 : s - a > 1000 - (W.length : Int)
          · rw [if_neg c1, if_pos c2] at h
            exact absurd h (by decide)
          rw [if_neg c1, if_neg c2]
          exact go s r a (W ++ upTo a s) B i1 (by omega) g2 (p.tr (by omega) (by omega) hw)
        · refine PG.neg hw ?_
          exact j3_good L (fun _ => keep i1 (by omega) g2) (fun h => absurd rfl h)
      · refine PG.neg b1 ?_
        exact hb (Bool.eq_false_iff.mpr b1)
    have J2 : ∀ b : Bool, PG (fun k => Z.customslaw38_play.j2 k s r v b a W B L i1) := by
      intro b
      refine PG.step (fun k => by rw [Z.customslaw38_play.j2]) ?_
      by_cases b1 : b = true
      · refine PG.pos b1 ?_
        obtain ⟨v2, i2, e2, f1, f2, _⟩ := next_eq L i1 20 (by omega) g2 (by omega) (by decide)
        rw [e2]
        refine PG.some ?_
        dsimp only
        refine PG.bind (deliver_ev a W B v2 r (by omega) (by omega)) ?_
        by_cases c1 : (0 ≤ v2 ∧ v2 < (W.length : Int)) ∧ (0 ≤ r ∧ r ≤ 1000000)
        · rw [show dl a W B v2 r = _ from if_pos c1]
          dsimp only
          have q := p.dl (show i < i2 by omega) v2 c1
          refine PG.pos rfl ?_
          rw [wrap64_id (r + 1) (by omega)]
          by_cases c2 : rd W v2 = r + 1
          · refine PG.pos c2 ?_
            rw [c2]
            simp only [if_pos c2] at q
            simp only [if_true]
            exact j3_good L (fun _ => go s (r + 1) a _ _ i2 (by omega) f2 q) (fun h => absurd rfl h)
          · refine PG.neg c2 ?_
            simp only [if_neg c2] at q ⊢
            exact j3_good L (fun _ => go s r a _ _ i2 (by omega) f2 q) (fun h => absurd rfl h)
        · rw [show dl a W B v2 r = _ from if_neg c1]
          dsimp only
          refine PG.neg (by decide) ?_
          exact j3_good L (fun h => absurd h (by decide)) (fun _ => keep i2 (by omega) f2)
      refine PG.neg b1 ?_
      by_cases v5 : v = 5
      · refine PG.pos v5 ?_
        obtain ⟨v2, i2, e2, f1, f2, _⟩ := next_eq L i1 20 (by omega) g2 (by omega) (by decide)
        rw [e2]
        refine PG.some ?_
        dsimp only
        rw [lose_eq a W B v2 (by omega) (by omega)]
        refine PG.some ?_
        refine j3_good L (fun h => ?_) (fun _ => keep i2 (by omega) f2)
        unfold ls at h ⊢
        by_cases c1 : 0 ≤ v2 ∧ v2 < (W.length : Int)
        · rw [if_pos c1]
          have := erase_len W v2.toNat
          exact go s r a _ B i2 (by omega) f2 ⟨⟨p1.1, p1.2.1, p1.2.2.1, by omega⟩, fun x hx => p.2.1 x (erase_mem hx), p.2.2.1, by dsimp only; omega, by omega⟩
        · rw [if_neg c1] at h
          exact absurd h (by decide)
      refine PG.neg v5 ?_
      by_cases v6 : v = 6
      · refine PG.pos v6 ?_
        obtain ⟨v2, i2, e2, f1, f2, _⟩ := next_eq L i1 20 (by omega) g2 (by omega) (by decide)
        rw [e2]
        refine PG.some ?_
        dsimp only
        rw [repeat_eq a W B v2 (by omega) (by omega)]
        refine PG.some ?_
        refine j3_good L (fun h => ?_) (fun _ => keep i2 (by omega) f2)
        unfold rp at h ⊢
        by_cases c1 : 0 ≤ v2 ∧ v2 < (W.length : Int)
        · by_cases c2 : (W.length : Int) ≥ 1000
          · rw [if_pos c1, if_pos c2] at h
            exact absurd h (by decide)
          · rw [if_pos c1, if_neg c2]
            refine go s r a _ B i2 (by omega) f2 ⟨⟨p1.1, p1.2.1, p1.2.2.1, by omega⟩, fun x hx => ?_, p.2.2.1, by simp only [List.length_append, List.length_singleton]; omega, by omega⟩
            rcases List.mem_append.1 hx with hx | hx
            · exact p.2.1 x hx
            · rw [List.mem_singleton.1 hx]
              exact p.2.1 _ (rd_mem W v2 c1.1 c1.2)
        · rw [if_neg c1] at h
          exact absurd h (by decide)
      refine PG.neg v6 ?_
      obtain ⟨v3, i3, e3, f3, f4, _⟩ := next_eq L i1 3 (by omega) g2 (by omega) (by decide)
      rw [e3]
      refine PG.some ?_
      dsimp only
      obtain ⟨v2, i2, e2, f1, f2, _⟩ := next_eq L i3 20 (by omega) f4 (by omega) (by decide)
      rw [e2]
      by_cases c0 : v3 = 0
      · refine PG.pos c0 (PG.some ?_)
        dsimp only
        rw [forget_eq a W B v2 (by omega) (by omega)]
        refine PG.some ?_
        refine j3_good L (fun h => ?_) (fun _ => keep i2 (by omega) f2)
        unfold fg at h ⊢
        by_cases c1 : 0 ≤ v2 ∧ v2 < (B.length : Int)
        · rw [if_pos c1]
          have := erase_len B v2.toNat
          exact go s r a W _ i2 (by omega) f2 ⟨⟨p1.1, p1.2.1, p1.2.2.1, by omega⟩, p.2.1, fun x hx => p.2.2.1 x (erase_mem hx), by omega, by dsimp only; omega⟩
        · rw [if_neg c1] at h
          exact absurd h (by decide)
      · refine PG.neg c0 (PG.some ?_)
        dsimp only
        rw [confirm_eq a W B v2 (by omega) (by omega)]
        refine PG.some ?_
        refine j3_good L (fun h => ?_) (fun _ => keep i2 (by omega) f2)
        unfold cf at h ⊢
        by_cases c1 : 0 ≤ v2 ∧ v2 < (B.length : Int)
        · rw [if_pos c1]
          have := erase_len B v2.toNat
          have hm := mx_le p1.2.1 (p.2.2.1 _ (rd_mem B v2 c1.1 c1.2))
          exact go s r _ W _ i2 (by omega) f2 ⟨⟨by dsimp only; omega, by dsimp only; omega, p1.2.2.1, by omega⟩, p.2.1, fun x hx => p.2.2.1 x (erase_mem hx), by omega, by dsimp only; omega⟩
        · rw [if_neg c1] at h
          exact absurd h (by decide)
    have J2' : PG (fun k => if v = 3 then Z.customslaw38_play.j2 k s r v (v == 3) a W B L i1 else Z.customslaw38_play.j2 k s r v (v == 4) a W B L i1) := by
      by_cases v3 : v = 3
      · exact PG.pos v3 (J2 _)
      · exact PG.neg v3 (J2 _)
    by_cases v1 : v = 1
    · exact PG.pos v1 (J1 _ (fun _ => J2'))
    · exact PG.neg v1 (J1 _ (fun _ => J2'))
theorem play_good (l : List Int) : PG (fun k => Z.customslaw38_play.f k l) := by
  have key : ∀ L : List Int, L.length ≤ 120 → PG (fun k => (some (L, (0 : Int))).bind fun bt => Z.customslaw38_play.l0 k 0 0 0 ([] : List Int) ([] : List Int) bt.1 bt.2) := fun L hL =>
    PG.some (play_loop L hL L.length 0 0 0 [] [] 0 (by omega) (by omega) (by omega) ⟨⟨by omega, by omega, by omega, by omega⟩, fun x hx => by simp at hx, fun x hx => by simp at hx, by simp, by simp⟩)
  by_cases h : (l.length : Int) > 120
  · refine PG.congr (fun k => by rw [Z.customslaw38_play.f, Z.customsmade_Cut.f, if_pos h, if_pos (by omega), if_pos (by omega), Option.bind_some]) ?_
    exact key _ (by rw [List.length_take]; omega)
  · refine PG.congr (fun k => by rw [Z.customslaw38_play.f, Z.customsmade_Cut.f, if_neg h, Option.bind_some]) ?_
    exact key _ (by omega)
end Go.Proofs.Ytfljnggpnndmkaa.Pure
