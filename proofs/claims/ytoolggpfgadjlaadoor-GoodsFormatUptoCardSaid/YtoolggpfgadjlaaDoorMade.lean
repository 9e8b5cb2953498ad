/- What customsmade.Good makes: a description that goodE accepts. Conditions: those each theorem states. -/
import Derived.Test.YtoolggpfgadjlaaDoorVFns
import Derived.Test.YtoolggpfgadjlaaDoorZcustomsmadeGood
import Derived.KernelRfl
namespace Go.Proofs.YtoolggpfgadjlaaDoor.Pure
open Go.RowKit Go.Proofs.YtoolggpfgadjlaaDoorW.PrintWords Go.Proofs.YtoolggpfgadjlaaDoorW.PrintLast Go.Proofs.YtoolggpfgadjlaaDoorW.PrintMore
set_option linter.unusedVariables false
set_option linter.unusedSimpArgs false
def I64 (x : Int) : Prop := -9223372036854775808 ≤ x ∧ x ≤ 9223372036854775807
theorem within_ex (x n : Int) (hx : I64 x) (h0 : 0 < n) (h1 : n ≤ 1000000) : ∃ v, Z.customsmade_Within.f x n = some v ∧ 0 ≤ v ∧ v < n := by
  refine ⟨Int.tmod (wrap64 (Int.tmod x n + n)) n, by unfold Z.customsmade_Within.f; rw [if_neg (by omega)], ?_⟩
  have h2 := Int.tmod_lt_of_pos x h0
  have h3 : -n < Int.tmod x n := by
    have := Int.lt_tmod_of_pos x h0
    exact this
  rw [wrap64_id _ (by omega)]
  have h4 : 0 ≤ Int.tmod x n + n := by omega
  exact ⟨Int.tmod_nonneg _ h4, Int.tmod_lt_of_pos _ h0⟩
def SrcOk (l : List Int) : Prop := l.length ≤ 60 ∧ ∀ x ∈ l, I64 x
theorem rd_mem {l : List Int} {i : Int} (h0 : 0 ≤ i) (h1 : i < l.length) : rd l i ∈ l := by
  unfold rd
  rw [List.getD_eq_getElem?_getD, List.getElem?_eq_getElem (by omega)]
  exact List.getElem_mem _
theorem next_ex (l : List Int) (hl : SrcOk l) (i n : Int) (h0 : 0 ≤ i) (h1 : i ≤ 60) (hn : 0 < n) (hn1 : n ≤ 1000000) : ∃ v i', Z.customsmade_Source_Next.f l i n = some (v, i') ∧ 0 ≤ v ∧ v < n ∧ 0 ≤ i' ∧ i' ≤ 60 := by
  unfold Z.customsmade_Source_Next.f
  have hl1 := hl.1
  by_cases h : i ≥ (l.length : Int)
  · rw [if_pos h]
    exact ⟨0, i, rfl, by omega, hn, h0, h1⟩
  · rw [if_neg h, wrap64_id (i + 1) (by omega), wrap64_id (i + 1 - 1) (by omega), if_pos (by omega), if_pos (by omega)]
    obtain ⟨v, hv, h2, h3⟩ := within_ex (rd l (i + 1 - 1)) n (hl.2 _ (rd_mem (by omega) (by omega))) hn hn1
    rw [hv]
    exact ⟨v, i + 1, rfl, h2, h3, by omega, by omega⟩
-- words: a part of the vocabulary
def vocab : List ByteArray := ([(⟨#[99, 104, 97, 105, 114]⟩ : ByteArray), (⟨#[100, 101, 115, 107]⟩ : ByteArray), (⟨#[103, 108, 97, 115, 115]⟩ : ByteArray), (⟨#[108, 97, 109, 112]⟩ : ByteArray), (⟨#[111, 102, 102, 105, 99, 101]⟩ : ByteArray), (⟨#[112, 97, 114, 116, 115]⟩ : ByteArray), (⟨#[115, 101, 97, 116]⟩ : ByteArray), (⟨#[115, 116, 101, 101, 108]⟩ : ByteArray), (⟨#[119, 111, 111, 100]⟩ : ByteArray)] : List ByteArray)
theorem vocab_wd : ∀ s ∈ vocab, wd s = true := by decide +kernel
theorem vocab_asc : vocab.Pairwise (fun a b => less a b = true) := by decide +kernel
theorem at_get (l : List ByteArray) (i : Nat) (h : i < l.length) : at_ l i = l[i] := by
  unfold at_
  rw [List.getD_eq_getElem?_getD, List.getElem?_eq_getElem h]
  rfl
theorem wsB_sub (l : List ByteArray) (h : l.Sublist vocab) (h8 : l.length ≤ 8) : wsB l = true := by
  unfold wsB
  rw [decide_eq_true h8, Bool.and_true]
  have hp : l.Pairwise (fun a b => less a b = true) := vocab_asc.sublist h
  refine allF_mk fun i hi => ?_
  unfold okW
  rw [at_get l i hi, vocab_wd _ (h.subset (List.getElem_mem hi)), Bool.true_and]
  by_cases h0 : i = 0
  · rw [decide_eq_true h0, Bool.true_or]
  · rw [at_get l (i - 1) (by omega), List.pairwise_iff_getElem.1 hp (i - 1) i (by omega) hi (by omega), Bool.or_true]
def WsOk (l : List ByteArray) : Prop := l.Sublist vocab ∧ 0 < l.length ∧ l.length ≤ 4
theorem WsOk.wsN {l : List ByteArray} (h : WsOk l) : wsN l = true := by
  unfold Pure.wsN
  rw [wsB_sub l h.1 (by have := h.2.2; omega), decide_eq_true h.2.1]
  rfl
theorem words_loop_ex (m : Int) (hm0 : 0 ≤ m) (hm1 : m < 512) (most : Int) (h1 : 1 ≤ most) (h4 : most ≤ 4) (L : List Int) (p : Int) : ∀ (d i : Nat) (out : List ByteArray), i + d = 9 → out.Sublist (vocab.take i) → (out.length : Int) ≤ most →
    ∃ ws, Ev (fun k => Z.customsmade_Source_Words.l0 k most vocab out m (i : Int) L p) (ws, p) ∧ WsOk ws := by
  have hv : vocab.length = 9 := rfl
  have stop : ∀ (i : Nat) (out : List ByteArray), out.Sublist (vocab.take i) → (out.length : Int) ≤ most → ∃ ws, Ev (fun k => Z.customsmade_Source_Words.j1 k most vocab out m (i : Int) false L p) (ws, p) ∧ WsOk ws := by
    intro i out hs hl
    by_cases hz : (out.length : Int) = 0
    · have ht : 0 ≤ Int.tmod m (vocab.length : Int) ∧ Int.tmod m (vocab.length : Int) < (vocab.length : Int) := ⟨Int.tmod_nonneg _ hm0, Int.tmod_lt_of_pos _ (by rw [hv]; decide)⟩
      refine ⟨[at_ vocab (Int.tmod m (vocab.length : Int)).toNat], ?_, ?_, by simp, by simp⟩
      · refine Ev.step (fun k => by rw [Z.customsmade_Source_Words.j1]) ?_
        exact ev_neg (by decide) (ev_pos hz (ev_neg (by rw [hv]; decide) (ev_pos ht.1 (ev_pos ht.2 (Ev.now _)))))
      rw [at_get _ _ (by omega)]
      exact List.singleton_sublist.2 (List.getElem_mem _)
    · refine ⟨out, ?_, hs.trans (List.take_sublist _ _), by omega, by omega⟩
      refine Ev.step (fun k => by rw [Z.customsmade_Source_Words.j1]) ?_
      exact ev_neg (by decide) (ev_neg hz (Ev.now _))
  intro d
  induction d with
  | zero =>
    intro i out hi hs hl
    obtain ⟨ws, h2, h3⟩ := stop i out hs hl
    refine ⟨ws, ?_, h3⟩
    refine Ev.step (fun k => by rw [Z.customsmade_Source_Words.l0]) ?_
    exact ev_neg (by rw [hv]; omega) h2
  | succ d ih =>
    intro i out hi hs hl
    have hi9 : i < vocab.length := by rw [hv]; omega
    by_cases hlt : (out.length : Int) < most
    · by_cases hb : (Go.bits .and .i64 (shr .i64 m (i : Int)) 1) = 1
      · obtain ⟨ws, h2, h3⟩ := ih (i + 1) (out ++ [at_ vocab i]) (by omega) (by
          rw [List.take_succ_eq_append_getElem hi9, at_get _ _ hi9]
          exact hs.append (List.Sublist.refl _)) (by rw [List.length_append]; simp only [List.length_cons, List.length_nil]; omega)
        refine ⟨ws, ?_, h3⟩
        refine Ev.step (fun k => by rw [Z.customsmade_Source_Words.l0]) ?_
        refine ev_pos (by rw [hv]; omega) ?_
        refine Ev.step (fun k => by rw [Z.customsmade_Source_Words.j1]) ?_
        refine ev_pos (decide_eq_true hlt) (ev_pos (by omega) (ev_pos hb (ev_pos (by rw [hv]; omega) (ev_pos (by omega) ?_))))
        rw [wrap64_id ((i : Int) + 1) (by omega)]
        exact h2
      · obtain ⟨ws, h2, h3⟩ := ih (i + 1) out (by omega) (hs.trans (by rw [List.take_succ_eq_append_getElem hi9]; exact List.sublist_append_left _ _)) hl
        refine ⟨ws, ?_, h3⟩
        refine Ev.step (fun k => by rw [Z.customsmade_Source_Words.l0]) ?_
        refine ev_pos (by rw [hv]; omega) ?_
        refine Ev.step (fun k => by rw [Z.customsmade_Source_Words.j1]) ?_
        refine ev_pos (decide_eq_true hlt) (ev_pos (by omega) (ev_neg hb ?_))
        rw [wrap64_id ((i : Int) + 1) (by omega)]
        exact h2
    · obtain ⟨ws, h2, h3⟩ := stop i out hs hl
      refine ⟨ws, ?_, h3⟩
      refine Ev.step (fun k => by rw [Z.customsmade_Source_Words.l0]) ?_
      refine ev_pos (by rw [hv]; omega) ?_
      rw [decide_eq_false hlt]
      exact h2
theorem words_ex (L : List Int) (hL : SrcOk L) (i most : Int) (h0 : 0 ≤ i) (h1 : i ≤ 60) (m1 : 1 ≤ most) (m4 : most ≤ 4) : ∃ ws i', Ev (fun k => Z.customsmade_Source_Words.f k L i most) (ws, i') ∧ WsOk ws ∧ 0 ≤ i' ∧ i' ≤ 60 := by
  obtain ⟨m, i', hn, a0, a1, a2, a3⟩ := next_ex L hL i 512 h0 h1 (by decide) (by decide)
  obtain ⟨ws, h2, h3⟩ := words_loop_ex m a0 a1 most m1 m4 L i' 9 0 [] (by omega) (by simp) (by simp; omega)
  refine ⟨ws, i', ?_, h3, a2, a3⟩
  refine Ev.congr (fun k => by rw [Z.customsmade_Source_Words.f, hn]) ?_
  exact ev_some (ev_some h2)
-- shares
def ShOk (n : Nat) (l : List Int) : Prop := l.length = n ∧ l.all okS = true ∧ sumI l = 1000000
theorem shares_loop_ex (L : List Int) (hL : SrcOk L) (n : Nat) (hn0 : 1 ≤ n) (hn : n ≤ 3) : ∀ (d i : Nat) (p : Int) (out : List Int) (left : Int), i + d = n → 1 ≤ i → 0 ≤ p → p ≤ 60 → out.length + 1 = i → out.all okS = true → sumI out + left = 1000000 → (n : Int) - i + 1 ≤ left → left ≤ 1000000 →
    ∃ xs p', Ev (fun k => Z.customsmade_Source_shares.l0 k (n : Int) out left (i : Int) L p) (xs, p') ∧ ShOk n xs ∧ 0 ≤ p' ∧ p' ≤ 60 := by
  intro d
  induction d with
  | zero =>
    intro i p out left hi h1 p0 p1 ho ha hs hl hl2
    refine ⟨out ++ [left], p, ?_, ⟨by rw [List.length_append]; simp only [List.length_cons, List.length_nil]; omega, ?_, ?_⟩, p0, p1⟩
    · refine Ev.step (fun k => by rw [Z.customsmade_Source_shares.l0]) ?_
      exact ev_neg (by omega) (ev_pos (by omega) (Ev.now _))
    · rw [List.all_append, ha, Bool.true_and, List.all_cons, List.all_nil, Bool.and_true]
      exact decide_eq_true (by omega)
    · rw [sumI_append]
      simp only [sumI]
      omega
  | succ d ih =>
    intro i p out left hi h1 p0 p1 ho ha hs hl hl2
    have go : ∀ (x p' : Int), 1 ≤ x → x ≤ 1000001 → 0 ≤ p' → p' ≤ 60 → ∃ xs p'', Ev (fun k => Z.customsmade_Source_shares.l0 k (n : Int) (out ++ [mn x (wrap64 (left - wrap64 ((n : Int) - (i : Int))))]) (wrap64 (left - mn x (wrap64 (left - wrap64 ((n : Int) - (i : Int)))))) (wrap64 ((i : Int) + 1)) L p') (xs, p'') ∧ ShOk n xs ∧ 0 ≤ p'' ∧ p'' ≤ 60 := by
      intro x p' x1 x2 q0 q1
      rw [wrap64_id ((n : Int) - (i : Int)) (by omega), wrap64_id (left - ((n : Int) - (i : Int))) (by omega), wrap64_id ((i : Int) + 1) (by omega)]
      have hmn : 1 ≤ mn x (left - ((n : Int) - (i : Int))) ∧ mn x (left - ((n : Int) - (i : Int))) ≤ left - ((n : Int) - (i : Int)) := by
        unfold mn
        split <;> omega
      generalize mn x (left - ((n : Int) - (i : Int))) = y at hmn ⊢
      rw [wrap64_id (left - y) (by omega)]
      refine ih (i + 1) p' (out ++ [y]) (left - y) (by omega) (by omega) q0 q1 (by rw [List.length_append]; simp only [List.length_cons, List.length_nil]; omega) ?_ ?_ (by omega) (by omega)
      · rw [List.all_append, ha, Bool.true_and, List.all_cons, List.all_nil, Bool.and_true]
        exact decide_eq_true (by omega)
      · rw [sumI_append]
        simp only [sumI]
        omega
    obtain ⟨v, p2, e1, a0, a1, a2, a3⟩ := next_ex L hL p 4 p0 p1 (by decide) (by decide)
    obtain ⟨v2, p3, e2, b0, b1, b2, b3⟩ := next_ex L hL p2 2 a2 a3 (by decide) (by decide)
    by_cases hv : v2 = 1
    · have hq : wrap64 ((1000000 : Int) / (n : Int)) = 1000000 / (n : Int) ∧ 0 < (1000000 : Int) / (n : Int) ∧ (1000000 : Int) / (n : Int) ≤ 1000000 := by
        have : n = 1 ∨ n = 2 ∨ n = 3 := by omega
        rcases this with h | h | h <;> subst h <;> exact ⟨wrap64_id _ (by omega), by omega, by omega⟩
      obtain ⟨v3, p4, e3, d0, d1, d2, d3⟩ := next_ex L hL p3 (1000000 / (n : Int)) b2 b3 hq.2.1 hq.2.2
      obtain ⟨xs, p5, g1, g2, g3, g4⟩ := go (wrap64 (1 + v3)) p4 (by rw [wrap64_id _ (by omega)]; omega) (by rw [wrap64_id _ (by omega)]; omega) d2 d3
      refine ⟨xs, p5, ?_, g2, g3, g4⟩
      refine Ev.step (fun k => by rw [Z.customsmade_Source_shares.l0]) ?_
      refine ev_pos (by omega) ?_
      rw [e1]
      refine ev_some ?_
      rw [e2]
      refine ev_some (ev_pos hv (ev_neg (by omega) ?_))
      rw [hq.1, e3]
      exact ev_some (ev_pos (by omega) g1)
    · obtain ⟨xs, p5, g1, g2, g3, g4⟩ := go (wrap64 (1 + wrap64 (v * 100000))) p3 (by rw [wrap64_id (v * 100000) (by omega), wrap64_id _ (by omega)]; omega) (by rw [wrap64_id (v * 100000) (by omega), wrap64_id _ (by omega)]; omega) b2 b3
      refine ⟨xs, p5, ?_, g2, g3, g4⟩
      refine Ev.step (fun k => by rw [Z.customsmade_Source_shares.l0]) ?_
      refine ev_pos (by omega) ?_
      rw [e1]
      refine ev_some ?_
      rw [e2]
      exact ev_some (ev_neg hv (ev_pos (by omega) g1))
theorem shares_ex (L : List Int) (hL : SrcOk L) (n : Nat) (hn0 : 1 ≤ n) (hn : n ≤ 3) (p : Int) (p0 : 0 ≤ p) (p1 : p ≤ 60) : ∃ xs p', Ev (fun k => Z.customsmade_Source_shares.f k L p (n : Int)) (xs, p') ∧ ShOk n xs ∧ 0 ≤ p' ∧ p' ≤ 60 := by
  obtain ⟨xs, p', h⟩ := shares_loop_ex L hL n hn0 hn (n - 1) 1 p [] 1000000 (by omega) (by omega) p0 p1 rfl rfl (by simp [sumI]) (by omega) (by omega)
  refine ⟨xs, p', ?_, h.2⟩
  refine Ev.congr (fun k => by rw [Z.customsmade_Source_shares.f]) ?_
  exact h.1
-- the whole
def names4 : List ByteArray := [(⟨#[103, 108, 97, 115, 115]⟩ : ByteArray), (⟨#[108, 97, 109, 112]⟩ : ByteArray), (⟨#[115, 116, 101, 101, 108]⟩ : ByteArray), (⟨#[119, 111, 111, 100]⟩ : ByteArray)]
def zipM (ns : List ByteArray) (xs : List Int) : List Z.S36 := List.zipWith (fun n x => (⟨n, x⟩ : Z.S36)) ns xs
def MatOk (ms : List Z.S36) : Prop := ms = [] ∨ ∃ v xs, (v = 0 ∨ v = 1) ∧ 1 ≤ xs.length ∧ xs.length ≤ 3 ∧ ShOk xs.length xs ∧ ms = zipM (names4.drop v) xs
def PartOk (ps : List Z.S38) : Prop := ps = [] ∨ (ps.length ≤ 3 ∧ (∀ p ∈ ps, WsOk p.f0) ∧ ShOk ps.length (pS ps))
theorem zip_take (ns : List ByteArray) (xs : List Int) (i : Nat) (h : i < xs.length) (hn : xs.length ≤ ns.length) : zipM (ns.take i) (xs.take i) ++ [(⟨rdOf ByteArray.empty ns (i : Int), rd xs (i : Int)⟩ : Z.S36)] = zipM (ns.take (i + 1)) (xs.take (i + 1)) := by
  unfold zipM
  rw [List.take_succ_eq_append_getElem (show i < ns.length by omega), List.take_succ_eq_append_getElem h, List.zipWith_append (by rw [List.length_take, List.length_take]; omega)]
  congr 1
  simp only [List.zipWith_cons_cons, List.zipWith_nil_left, List.cons.injEq, and_true]
  congr 1
  · exact at_get ns i (by omega)
  · unfold rd
    rw [List.getD_eq_getElem?_getD, show ((i : Int)).toNat = i from rfl, List.getElem?_eq_getElem h]
    rfl
theorem mats_ev (ns : List ByteArray) (xs : List Int) (hn : xs.length ≤ ns.length) (h9 : ns.length ≤ 100) (L : List Int) (p : Int) (ws : List ByteArray) (inc : Bool) (r : List ByteArray × List Z.S36 × List Z.S38 × Bool)
    (hr : Ev (fun k => Z.customsmade_Good.j1 k L p ws (zipM ns xs) inc) r) : ∀ (d i : Nat), i + d = xs.length → Ev (fun k => Z.customsmade_Good.l0 k ns xs (i : Int) L p ws (zipM (ns.take i) (xs.take i)) inc) r := by
  intro d
  induction d with
  | zero =>
    intro i hi
    refine Ev.step (fun k => by rw [Z.customsmade_Good.l0]) (ev_neg (by omega) ?_)
    have e : zipM (ns.take i) (xs.take i) = zipM ns xs := by
      unfold zipM
      rw [← List.take_zipWith]
      exact List.take_of_length_le (by rw [List.length_zipWith]; omega)
    rw [e]
    exact hr
  | succ d ih =>
    intro i hi
    refine Ev.step (fun k => by rw [Z.customsmade_Good.l0]) (ev_pos (by omega) (ev_pos (by omega) (ev_pos (by omega) ?_)))
    rw [zip_take ns xs i (by omega) hn, wrap64_id ((i : Int) + 1) (by omega)]
    refine ev_pos ?_ (ih (i + 1) (by omega))
    unfold zipM
    rw [List.length_zipWith, List.length_take, List.length_take]
    omega
theorem parts_ex (L : List Int) (hL : SrcOk L) (xs : List Int) (hx : xs.length ≤ 3) (ws : List ByteArray) (ms : List Z.S36) (inc : Bool) : ∀ (d i : Nat) (p : Int) (acc : List Z.S38), i + d = xs.length → 0 ≤ p → p ≤ 60 → acc.length = i → pS acc = xs.take i → (∀ q ∈ acc, WsOk q.f0) →
    ∃ ps, Ev (fun k => Z.customsmade_Good.l1 k xs (i : Int) L p ws ms acc inc) (ws, ms, ps, inc) ∧ ps.length = xs.length ∧ pS ps = xs ∧ ∀ q ∈ ps, WsOk q.f0 := by
  intro d
  induction d with
  | zero =>
    intro i p acc hi p0 p1 hl hs hw
    refine ⟨acc, ?_, by omega, by rw [hs, List.take_of_length_le (by omega)], hw⟩
    refine Ev.step (fun k => by rw [Z.customsmade_Good.l1]) ?_
    exact ev_neg (by omega) (Ev.now _)
  | succ d ih =>
    intro i p acc hi p0 p1 hl hs hw
    obtain ⟨w1, p2, e1, o1, q0, q1⟩ := words_ex L hL p 3 p0 p1 (by decide) (by decide)
    obtain ⟨ps, g1, g2, g3, g4⟩ := ih (i + 1) p2 (acc ++ [(⟨w1, rd xs (i : Int)⟩ : Z.S38)]) (by omega) q0 q1 (by rw [List.length_append]; simp only [List.length_cons, List.length_nil]; omega) (by
      have e : xs.take (i + 1) = xs.take i ++ [rd xs (i : Int)] := by
        rw [List.take_succ_eq_append_getElem (by omega)]
        congr 2
        unfold rd
        rw [List.getD_eq_getElem?_getD, show ((i : Int)).toNat = i from rfl, List.getElem?_eq_getElem (by omega)]
        rfl
      rw [e, ← hs]
      unfold pS
      rw [List.map_append]
      rfl) (by
      intro q hq
      rcases List.mem_append.1 hq with hq | hq
      · exact hw q hq
      · rw [List.mem_singleton.1 hq]
        exact o1)
    refine ⟨ps, ?_, g2, g3, g4⟩
    refine Ev.step (fun k => by rw [Z.customsmade_Good.l1]) ?_
    refine ev_pos (by omega) (Ev.bind e1 (ev_pos (by omega) (ev_pos (by omega) ?_)))
    rw [wrap64_id ((i : Int) + 1) (by omega)]
    exact g1
theorem j1_ex (L : List Int) (hL : SrcOk L) (p : Int) (p0 : 0 ≤ p) (p1 : p ≤ 60) (ws : List ByteArray) (ms : List Z.S36) (inc : Bool) : ∃ ps, Ev (fun k => Z.customsmade_Good.j1 k L p ws ms inc) (ws, ms, ps, inc) ∧ PartOk ps := by
  obtain ⟨v, p2, e1, a0, a1, a2, a3⟩ := next_ex L hL p 3 p0 p1 (by decide) (by decide)
  by_cases hv : v = 1
  · obtain ⟨v2, p3, e2, b0, b1, b2, b3⟩ := next_ex L hL p2 3 a2 a3 (by decide) (by decide)
    obtain ⟨xs, p4, e3, s1, c0, c1⟩ := shares_ex L hL (1 + v2).toNat (by omega) (by omega) p3 b2 b3
    rw [show (((1 + v2).toNat : Nat) : Int) = 1 + v2 by omega] at e3
    obtain ⟨ps, g1, g2, g3, g4⟩ := parts_ex L hL xs (by have := s1.1; omega) ws ms inc xs.length 0 p4 [] (by omega) c0 c1 rfl rfl (fun _ h => by cases h)
    refine ⟨ps, ?_, .inr ⟨by have := s1.1; omega, g4, by rw [g2, g3, s1.1]; exact s1⟩⟩
    refine Ev.step (fun k => by rw [Z.customsmade_Good.j1]) ?_
    rw [e1]
    refine ev_some (ev_pos hv ?_)
    rw [e2]
    refine ev_some ?_
    rw [wrap64_id (1 + v2) (by omega)]
    exact Ev.bind e3 g1
  · refine ⟨[], ?_, .inl rfl⟩
    refine Ev.step (fun k => by rw [Z.customsmade_Good.j1]) ?_
    rw [e1]
    exact ev_some (ev_neg hv (Ev.now _))
structure GoodOk (ws : List ByteArray) (ms : List Z.S36) (ps : List Z.S38) : Prop where
  hw : WsOk ws
  hm : MatOk ms
  hp : PartOk ps
theorem good_ex (l : List Int) (hl : ∀ x ∈ l, I64 x) (hlen : l.length ≤ 140737488351232) : ∃ ws ms ps inc, Ev (fun k => Z.customsmade_Good.f k l) (ws, ms, ps, inc) ∧ GoodOk ws ms ps := by
  have hL : SrcOk (l.take 60) := ⟨by rw [List.length_take]; omega, fun x hx => hl x (List.mem_of_mem_take hx)⟩
  have hc : Z.customsmade_Cut.f l 60 = some (l.take 60) := by
    unfold Z.customsmade_Cut.f
    by_cases h : (l.length : Int) > 60
    · rw [if_pos h, if_pos (by decide), if_pos (by omega)]
      rfl
    · rw [if_neg h, List.take_of_length_le (by omega)]
  generalize l.take 60 = L at hL hc
  obtain ⟨ws, p1, e1, o1, a0, a1⟩ := words_ex L hL 0 4 (by decide) (by decide) (by decide) (by decide)
  obtain ⟨v2, p2, e2, b0, b1, b2, b3⟩ := next_ex L hL p1 4 a0 a1 (by decide) (by decide)
  obtain ⟨v3, p3, e3, c0, c1, c2, c3⟩ := next_ex L hL p2 4 b2 b3 (by decide) (by decide)
  by_cases hv : v3 > 0
  · obtain ⟨v4, p4, e4, d0, d1, d2, d3⟩ := next_ex L hL p3 2 c2 c3 (by decide) (by decide)
    have hdl : (names4.drop v4.toNat).length = 4 - v4.toNat := by rw [List.length_drop]; rfl
    have hmn : mn v3 ((names4.drop v4.toNat).length : Int) = v3 := by
      unfold mn
      rw [hdl]
      split <;> omega
    obtain ⟨xs, p5, e5, s1, q0, q1⟩ := shares_ex L hL v3.toNat (by omega) (by omega) p4 d2 d3
    rw [show ((v3.toNat : Nat) : Int) = v3 by omega] at e5
    have hxl := s1.1
    obtain ⟨ps, g1, g2⟩ := j1_ex L hL p5 q0 q1 ws (zipM (names4.drop v4.toNat) xs) (v2 == 1)
    refine ⟨ws, zipM (names4.drop v4.toNat) xs, ps, (v2 == 1), ?_, o1, .inr ⟨v4.toNat, xs, by omega, by omega, by omega, by rw [hxl]; exact s1, rfl⟩, g2⟩
    refine Ev.congr (fun k => by rw [Z.customsmade_Good.f, hc]) ?_
    refine ev_some (ev_some ?_)
    refine Ev.bind e1 ?_
    dsimp only
    rw [e2]
    refine ev_some ?_
    dsimp only
    rw [e3]
    refine ev_some (ev_pos hv (ev_some ?_))
    dsimp only
    rw [e4]
    refine ev_some (ev_pos d0 (ev_pos (show v4 ≤ 4 by omega) (ev_some ?_)))
    show Ev (fun k => (Z.customsmade_Source_shares.f k L p4 (mn v3 ((names4.drop v4.toNat).length : Int))).bind fun bt => Z.customsmade_Good.l0 k (names4.drop v4.toNat) bt.1 0 L bt.2 ws [] (v2 == 1)) _
    rw [hmn]
    exact Ev.bind e5 (mats_ev (names4.drop v4.toNat) xs (by rw [hdl]; omega) (by rw [hdl]; omega) L p5 ws (v2 == 1) _ g1 xs.length 0 (by omega))
  · obtain ⟨ps, g1, g2⟩ := j1_ex L hL p3 c2 c3 ws [] (v2 == 1)
    refine ⟨ws, [], ps, (v2 == 1), ?_, o1, .inl rfl, g2⟩
    refine Ev.congr (fun k => by rw [Z.customsmade_Good.f, hc]) ?_
    refine ev_some (ev_some ?_)
    refine Ev.bind e1 ?_
    dsimp only
    rw [e2]
    refine ev_some ?_
    dsimp only
    rw [e3]
    exact ev_some (ev_neg hv g1)
theorem mats_zero (ms : List Z.S36) (h : MatOk ms) : ms.length ≤ 3 ∧ allF (okM ms) ms.length 0 = true ∧ (mS ms).all okS = true ∧ (mS ms = [] ∨ sumI (mS ms) = 1000000) := by
  rcases h with rfl | ⟨v, xs, hv, h1, h3, hs, rfl⟩
  · exact ⟨by decide, rfl, rfl, .inl rfl⟩
  · obtain ⟨_, ha, hsum⟩ := hs
    have key : (zipM (names4.drop v) xs).length ≤ 3 ∧ allF (okM (zipM (names4.drop v) xs)) (zipM (names4.drop v) xs).length 0 = true ∧ mS (zipM (names4.drop v) xs) = xs := by
      match xs, h1, h3 with
      | [a], _, _ => rcases hv with rfl | rfl <;> exact ⟨by simp [zipM, names4], by kernel_rfl, rfl⟩
      | [a, b], _, _ => rcases hv with rfl | rfl <;> exact ⟨by simp [zipM, names4], by kernel_rfl, rfl⟩
      | [a, b, c], _, _ => rcases hv with rfl | rfl <;> exact ⟨by simp [zipM, names4], by kernel_rfl, rfl⟩
    rw [key.2.2]
    exact ⟨key.1, key.2.1, ha, .inr hsum⟩
theorem parts_zero (ps : List Z.S38) (h : PartOk ps) : ps.length ≤ 3 ∧ allF (okP ps) ps.length 0 = true ∧ (pS ps).all okS = true ∧ (pS ps = [] ∨ sumI (pS ps) = 1000000) := by
  rcases h with rfl | ⟨h3, hw, hs⟩
  · exact ⟨by decide, rfl, rfl, .inl rfl⟩
  · refine ⟨h3, allF_mk fun j hj => ?_, hs.2.1, .inr hs.2.2⟩
    unfold okP
    rw [List.getD_eq_getElem?_getD, List.getElem?_eq_getElem hj]
    exact (hw _ (List.getElem_mem hj)).wsN
theorem goodE_zero {ws : List ByteArray} {ms : List Z.S36} {ps : List Z.S38} (h : GoodOk ws ms ps) : goodE ws ms ps = 0 := by
  obtain ⟨m1, m2, m3, m4⟩ := mats_zero ms h.hm
  obtain ⟨p1, p2, p3, p4⟩ := parts_zero ps h.hp
  unfold goodE tailE
  rw [if_pos h.hw.wsN, if_neg (by omega), if_pos m2, if_pos p2, if_pos (show (mS ms).all okS = true ∧ (pS ps).all okS = true from ⟨m3, p3⟩), if_pos ⟨m4, p4⟩]
theorem vocab_fin : ∀ s ∈ vocab, s.size ≤ 140737488351232 := by decide +kernel
theorem WsOk.fin {l : List ByteArray} (h : WsOk l) : FinL l := ⟨by have := h.2.2; omega, fun s hs => vocab_fin s (h.1.subset hs)⟩
theorem GoodOk.fin {ws : List ByteArray} {ms : List Z.S36} {ps : List Z.S38} (h : GoodOk ws ms ps) : FinG ws ms ps := by
  refine ⟨h.hw.fin, ?_, ?_⟩
  · rcases h.hm with rfl | ⟨v, xs, hv, _, _, _, rfl⟩
    · intro p hp; cases hp
    · intro p hp
      have hn : ∀ s ∈ names4, s.size ≤ 140737488351232 := by decide +kernel
      unfold zipM at hp
      obtain ⟨i, hi, rfl⟩ := List.getElem_of_mem hp
      rw [List.getElem_zipWith]
      exact hn _ (List.mem_of_mem_drop (List.getElem_mem _))
  · rcases h.hp with rfl | ⟨_, hw, _⟩
    · intro p hp; cases hp
    · exact fun p hp => (hw p hp).fin
end Go.Proofs.YtoolggpfgadjlaaDoor.Pure
