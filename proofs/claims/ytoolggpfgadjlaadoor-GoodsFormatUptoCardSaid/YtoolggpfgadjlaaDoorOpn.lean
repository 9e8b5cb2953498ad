/- What an argument's reading says in the print's words: its value by kinds, how great it is, that its numbers fit. Conditions: none but those each theorem states. -/
import Derived.Test.YtoolggpfgadjlaaDoorRows
import Derived.Test.YtoolggpfgadjlaaDoorUMore0
namespace Go.Proofs.YtoolggpfgadjlaaDoor.Opening
open Go.RowKit Go.Proofs.YtoolggpfgadjlaaDoorW.PrintWords Go.Proofs.YtoolggpfgadjlaaDoorW.PrintLast Go.Proofs.YtoolggpfgadjlaaDoorW.PrintMore

-- how great a value is
def bkL {α : Type} (f : α → Nat) (l : List α) : Nat := 1 + (l.map f).sum
theorem length_bkL {α : Type} (f : α → Nat) (hf : ∀ x, 1 ≤ f x) (l : List α) : l.length ≤ bkL f l := by
  unfold bkL
  induction l with
  | nil => simp
  | cons x l ih => have := hf x; simp only [List.map_cons, List.sum_cons, List.length_cons]; omega
theorem mem_bkL {α : Type} (f : α → Nat) {l : List α} {x : α} (h : x ∈ l) : f x + 1 ≤ bkL f l := by
  unfold bkL
  induction l with
  | nil => cases h
  | cons y l ih =>
    simp only [List.map_cons, List.sum_cons]
    rcases List.mem_cons.1 h with rfl | h
    · omega
    · have := ih h; omega

-- no row takes more than the addresses there are, or the whole is small
def Fine (P : Program) (t : TypeId) {H : Type} (d : DataW H) : Prop := (∀ n ∈ d.weights P t, n ≤ reachBytes) ∨ Rows.uptoBulk d ≤ 1048576
theorem bulk_mem {H : Type} {y : DataW H} : ∀ {l : List (DataW H)}, y ∈ l → Rows.uptoBulk y ≤ Rows.uptoBulkAll l := by
  intro l h
  induction l with
  | nil => cases h
  | cons x l ih =>
    simp only [Rows.uptoBulkAll]
    rcases List.mem_cons.1 h with rfl | h
    · omega
    · have := ih h; omega
theorem weights_mem {H : Type} {P : Program} {e : TypeId} {y : DataW H} : ∀ {l : List (DataW H)}, y ∈ l → ∀ n ∈ y.weights P e, n ∈ DataW.weightsAll P e l := by
  intro l h n hn
  induction l with
  | nil => cases h
  | cons x l ih =>
    simp only [DataW.weightsAll, List.mem_append]
    rcases List.mem_cons.1 h with rfl | h
    · exact .inl hn
    · exact .inr (ih h)
theorem bulk_len {H : Type} : ∀ l : List (DataW H), l.length ≤ Rows.uptoBulkAll l := by
  intro l
  induction l with
  | nil => simp
  | cons x l ih =>
    have : 1 ≤ Rows.uptoBulk x := by cases x <;> (try simp [Rows.uptoBulk]) <;> (rename_i y; cases y <;> simp [Rows.uptoBulk])
    simp only [Rows.uptoBulkAll, List.length_cons]; omega
-- a reading of type t is of the kind K
structure Opn (P : Program) (t : TypeId) {α : Type} (K : Kd α) (bk : α → Nat) (wf : α → Prop) : Prop where
  get : ∀ {H : Type} (enc : TypeId × Value → H) (W : World) (fuel : Nat) (cs : List Value) (d : DataW H) (ps : List MemPlace),
    DataW.trod enc P W 0 (fun _ => true) true fuel t cs = some (d, ps) → Fine P t d → ∃ x : α, K.K W x cs ∧ bk x ≤ Rows.uptoBulk d ∧ wf x
section
variable {P : Program} {t e : TypeId} {α β : Type} {K : Kd α} {bk : α → Nat} {wf : α → Prop}
theorem Opn.int {k : IntKind} (hu : P.underlying t = some (.int k)) : Opn P t (Kd.int k) (fun _ => 1) (fun x => (Lit.int k x).wf = true) := ⟨by
  intro H enc W fuel cs d ps h hz
  cases fuel with
  | zero => simp [DataW.trod] at h
  | succ fuel =>
    unfold DataW.trod at h
    rw [hu] at h
    split at h <;> simp_all
    rename_i k' n _
    obtain ⟨⟨rfl, hw⟩, rfl, rfl⟩ := h
    exact ⟨n, rfl, by simp [Rows.uptoBulk], hw⟩⟩
theorem Opn.bool (hu : P.underlying t = some .bool) : Opn P t Kd.bool (fun _ => 1) (fun _ => True) := ⟨by
  intro H enc W fuel cs d ps h hz
  cases fuel with
  | zero => simp [DataW.trod] at h
  | succ fuel =>
    unfold DataW.trod at h
    rw [hu] at h
    split at h <;> simp_all
    obtain ⟨rfl, _⟩ := h
    rename_i b _
    cases b
    · exact ⟨.inl rfl, by simp [Rows.uptoBulk]⟩
    · exact ⟨.inr rfl, by simp [Rows.uptoBulk]⟩⟩
theorem Opn.string (hu : P.underlying t = some .string) : Opn P t Kd.string (fun x => x.size + 1) (fun _ => True) := ⟨by
  intro H enc W fuel cs d ps h hz
  cases fuel with
  | zero => simp [DataW.trod] at h
  | succ fuel =>
    unfold DataW.trod at h
    rw [hu] at h
    split at h <;> simp_all
    obtain ⟨_, rfl, _⟩ := h
    refine ⟨_, rfl, ?_⟩
    unfold Rows.uptoBulk
    rw [Array.length_toList]
    exact Nat.le_refl _⟩
-- cells that are read one by one
theorem cells_get {W : World} {a : Addr} {n : Nat} {cs : List Value} (h : W.cells? 0 a n = some cs) : cs.length = n ∧ ∀ (i : Nat) (u : Value), cs[i]? = some u → W.cell? (a.add i) = some u := by
  unfold World.cells? at h
  rw [if_pos (Nat.zero_le _)] at h
  have key : ∀ (l : List Nat) (cs : List Value), (l.mapM fun i => W.cell? (a.add i)) = some cs → cs.length = l.length ∧ ∀ (i : Nat) (u : Value), cs[i]? = some u → ∃ k : Nat, l[i]? = some k ∧ W.cell? (a.add k) = some u := by
    intro l
    induction l with
    | nil => intro cs h; simp at h; subst h; exact ⟨rfl, fun i u hi => by simp at hi⟩
    | cons k l ih =>
      intro cs h
      rw [List.mapM_cons] at h
      simp only [Option.bind_eq_bind, Option.bind_eq_some_iff, Option.pure_def] at h
      obtain ⟨u0, h0, us, hus, he⟩ := h
      injection he with he
      subst he
      obtain ⟨h1, h2⟩ := ih us hus
      refine ⟨by simp [h1], fun i u hi => ?_⟩
      cases i with
      | zero => simp at hi; subst hi; exact ⟨k, by simp, h0⟩
      | succ i => simp at hi; obtain ⟨k', hk, hc⟩ := h2 i u hi; exact ⟨k', by simpa using hk, hc⟩
  obtain ⟨h1, h2⟩ := key _ _ h
  refine ⟨by simpa using h1, fun i u hi => ?_⟩
  obtain ⟨k, hk, hc⟩ := h2 i u hi
  rw [List.getElem?_range (by have := (List.getElem?_eq_some_iff.1 hi).1; rw [h1] at this; simpa using this)] at hk
  injection hk with hk
  subst hk
  exact hc
theorem mapM_get {γ δ : Type} {f : γ → Option δ} : ∀ {l : List γ} {r : List δ}, l.mapM f = some r → r.length = l.length ∧ ∀ (i : Nat) (x : γ), l[i]? = some x → ∃ y, r[i]? = some y ∧ f x = some y := by
  intro l
  induction l with
  | nil => intro r h; simp at h; subst h; exact ⟨rfl, fun i x hi => by simp at hi⟩
  | cons k l ih =>
    intro r h
    rw [List.mapM_cons] at h
    simp only [Option.bind_eq_bind, Option.bind_eq_some_iff, Option.pure_def] at h
    obtain ⟨u0, h0, us, hus, he⟩ := h
    injection he with he
    subst he
    obtain ⟨h1, h2⟩ := ih hus
    refine ⟨by simp [h1], fun i x hi => ?_⟩
    cases i with
    | zero => simp at hi; subst hi; exact ⟨u0, by simp, h0⟩
    | succ i => simp at hi; obtain ⟨y, hy, hf⟩ := h2 i x hi; exact ⟨y, by simpa using hy, hf⟩
theorem bulkAll_map {H : Type} (l : List (DataW H)) : Rows.uptoBulkAll l = (l.map Rows.uptoBulk).sum := by
  induction l with
  | nil => simp [Rows.uptoBulkAll]
  | cons x l ih => simp [Rows.uptoBulkAll, ih]
theorem sum_le {γ δ : Type} (f : γ → Nat) (g : δ → Nat) : ∀ (l : List γ) (r : List δ), l.length = r.length → (∀ (i : Nat) (x : γ) (y : δ), l[i]? = some x → r[i]? = some y → f x ≤ g y) → (l.map f).sum ≤ (r.map g).sum := by
  intro l
  induction l with
  | nil => intro r _ _; simp
  | cons x l ih =>
    intro r hl h
    cases r with
    | nil => simp at hl
    | cons y r =>
      have h0 := h 0 x y (by simp) (by simp)
      have h1 := ih r (by simpa using hl) (fun i a b ha hb => h (i + 1) a b (by simpa using ha) (by simpa using hb))
      simp only [List.map_cons, List.sum_cons]
      omega
theorem list_of {α : Type} {p : Nat → α → Prop} : ∀ n : Nat, (∀ i : Nat, i < n → ∃ x, p i x) → ∃ xs : List α, xs.length = n ∧ ∀ (i : Nat) (x : α), xs[i]? = some x → p i x := by
  intro n
  induction n with
  | zero => exact fun _ => ⟨[], rfl, fun i x h => by simp at h⟩
  | succ n ih =>
    intro h
    obtain ⟨xs, hl, hp⟩ := ih (fun i hi => h i (by omega))
    obtain ⟨x, hx⟩ := h n (by omega)
    refine ⟨xs ++ [x], by simp [hl], fun i y hi => ?_⟩
    rcases Nat.lt_or_ge i n with hlt | hge
    · rw [List.getElem?_append_left (by omega)] at hi; exact hp i y hi
    · have hin : i = n := by
        have := (List.getElem?_eq_some_iff.1 hi).1
        simp at this
        omega
      subst hin
      rw [List.getElem?_append_right (by omega)] at hi
      simp [hl] at hi
      subst hi
      exact hx
theorem Opn.slice {B : Nat} (hu : P.underlying t = some (.slice e)) (hc : P.cellsOf e = K.sz) (hB : P.bytesOf e = B) (hB1 : B ≤ 134217720) (ho : Opn P e K bk wf) : Opn P t (Kd.slice e K) (bkL bk) (fun xs => xs.length * B ≤ 140737488351232 ∧ ∀ x ∈ xs, wf x) := ⟨by
  intro H enc W fuel cs d ps h hz
  cases fuel with
  | zero => simp [DataW.trod] at h
  | succ fuel =>
    unfold DataW.trod at h
    rw [hu] at h
    dsimp only at h
    split at h
    all_goals rename_i heq
    all_goals first | (cases h; done) | (cases heq; done) | skip
    · injection h with h
      injection h with h1 _
      subst h1
      exact ⟨[], ⟨none, 0, rfl, by simp, Kd.C_nil _ _⟩, by simp [bkL, Rows.uptoBulk], by simp, by simp⟩
    · rename_i e' a len cap
      injection heq with heq
      injection heq with heq
      subst heq
      split at h
      · rename_i hlen
        obtain ⟨_, hlc, hcm⟩ := hlen
        rw [Option.bind_eq_some_iff] at h
        obtain ⟨elems, hel, h⟩ := h
        rw [Option.map_eq_some_iff] at h
        obtain ⟨rest, _, h⟩ := h
        injection h with h1 _
        subst h1
        obtain ⟨hl, hg⟩ := mapM_get hel
        rw [List.length_range] at hl
        have hfine : ∀ y : DataW H × List MemPlace, y ∈ elems → Fine P e y.1 := fun y hy => by
          have hm : y.1 ∈ elems.map (·.1) := List.mem_map.2 ⟨y, hy, rfl⟩
          rcases hz with hz | hz
          · refine .inl fun n hn => hz n ?_
            simp only [DataW.weights, hu, List.mem_cons, List.mem_append]
            exact .inr (.inl (weights_mem hm n hn))
          · refine .inr ?_
            have := bulk_mem hm
            simp only [Rows.uptoBulk] at hz
            omega
        have hsz : len * B ≤ 140737488351232 := by
          rcases hz with hz | hz
          · have h1 := hz (((elems.map (·.1)).length + (rest.map (·.1)).length) * P.bytesOf e) (by simp only [DataW.weights, hu, List.mem_cons, true_or])
            rw [hB] at h1
            have h2 : len * B ≤ ((elems.map (·.1)).length + (rest.map (·.1)).length) * B := Nat.mul_le_mul_right _ (by simp [hl])
            simp only [reachBytes] at h1
            omega
          · have h1 := bulk_len (elems.map (·.1))
            simp only [Rows.uptoBulk] at hz
            have h2 : len ≤ 1048576 := by simp only [List.length_map, hl] at h1; omega
            have h3 := Nat.mul_le_mul h2 hB1
            omega
        obtain ⟨xs, hxl, hxp⟩ := list_of (p := fun i x => ∃ c y, elems[i]? = some y ∧ W.cells? 0 (a.add (i * P.cellsOf e)) (P.cellsOf e) = some c ∧ K.K W x c ∧ bk x ≤ Rows.uptoBulk y.1 ∧ wf x) len (fun i hi => by
          obtain ⟨y, hy, hf⟩ := hg i i (by rw [List.getElem?_range hi])
          rw [Option.bind_eq_some_iff] at hf
          obtain ⟨c, hcc, ht⟩ := hf
          obtain ⟨x, h1, h2, h3⟩ := ho.get enc W fuel c y.1 y.2 ht (hfine y (List.mem_of_getElem? hy))
          exact ⟨x, c, y, hy, hcc, h1, h2, h3⟩)
        simp only [maxLen] at hcm
        refine ⟨xs, ⟨some a, cap, by rw [hxl], by omega, ⟨rfl, by omega, fun _ => ⟨a, rfl, fun i x hi => ?_⟩⟩⟩, ?_, by rw [hxl]; exact hsz, fun x hx => ?_⟩
        · obtain ⟨c, y, _, hcc, hK, _⟩ := hxp i x hi
          obtain ⟨c1, c2⟩ := cells_get hcc
          refine ⟨c, by rw [c1, hc], hK, fun j u hj => ?_⟩
          have := c2 j u hj
          rw [add_add, hc] at this
          exact this
        · simp only [Rows.uptoBulk]
          have h1 : (xs.map bk).sum ≤ ((elems.map (·.1)).map Rows.uptoBulk).sum := sum_le _ _ _ _ (by simp [hxl, hl]) (fun i x y hx hy => by
            obtain ⟨c, z, hz, _, _, hb, _⟩ := hxp i x hx
            rw [List.getElem?_map, hz] at hy
            simp at hy
            subst hy
            exact hb)
          rw [bulkAll_map, bkL]
          omega
        · obtain ⟨i, hi⟩ := List.mem_iff_getElem?.1 hx
          obtain ⟨c, y, _, _, _, _, hw⟩ := hxp i x hi
          exact hw
      · cases h⟩

theorem Opn.iso {f : β → α} {bk : α → Nat} {wf : α → Prop} {K : Kd α} (h : Opn P t K bk wf) (mk : α → β) (hm : ∀ x, f (mk x) = x) : Opn P t (Kd.iso K f) (fun y => bk (f y)) (fun y => wf (f y)) := ⟨by
  intro H enc W fuel cs d ps hd hz
  obtain ⟨x, h1, h2, h3⟩ := h.get enc W fuel cs d ps hd hz
  refine ⟨mk x, ?_, ?_, ?_⟩
  · show K.K W (f (mk x)) cs
    rw [hm]; exact h1
  · show bk (f (mk x)) ≤ _
    rw [hm]; exact h2
  · show wf (f (mk x))
    rw [hm]; exact h3⟩
-- a structure's fields, from the one at off on
structure OpnF (P : Program) (fs : List Field) (off : Nat) {α : Type} (K : Kd α) (bk : α → Nat) (wf : α → Prop) : Prop where
  get : ∀ {H : Type} (enc : TypeId × Value → H) (W : World) (fuel : Nat) (cs : List Value) (xs : List (DataW H × List MemPlace)), cs.length = off + K.sz →
    (fs.mapM fun f => DataW.trod enc P W 0 (fun _ => true) true fuel f.type ((cs.drop f.offset).take (P.cellsOf f.type))) = some xs → ((∀ n ∈ DataW.weightsEach P (fs.map (·.type)) (xs.map (·.1)), n ≤ reachBytes) ∨ Rows.uptoBulkAll (xs.map (·.1)) ≤ 1048576) → ∃ x : α, K.K W x (cs.drop off) ∧ bk x ≤ Rows.uptoBulkAll (xs.map (·.1)) ∧ wf x
theorem OpnF.one {f : Field} {off : Nat} {bk : α → Nat} {wf : α → Prop} {K : Kd α} (ho : f.offset = off) (hc : P.cellsOf f.type = K.sz) (h : Opn P f.type K bk wf) : OpnF P [f] off K bk wf := ⟨by
  intro H enc W fuel cs xs hl hx hz
  rw [List.mapM_cons] at hx
  simp only [Option.bind_eq_bind, Option.bind_eq_some_iff, Option.pure_def, List.mapM_nil] at hx
  obtain ⟨u, hu, us, hus, he⟩ := hx
  injection hus with hus
  injection he with he
  subst hus he
  rw [ho, List.take_of_length_le (by rw [List.length_drop]; omega)] at hu
  obtain ⟨x, h1, h2, h3⟩ := h.get enc W fuel _ u.1 u.2 hu (by
    rcases hz with hz | hz
    · exact .inl fun n hn => hz n (by simp [DataW.weightsEach]; exact hn)
    · exact .inr (by simpa [Rows.uptoBulkAll] using hz))
  exact ⟨x, h1, by simpa [Rows.uptoBulkAll] using h2, h3⟩⟩
theorem OpnF.cons {f : Field} {fs : List Field} {off : Nat} {bk : α → Nat} {wf : α → Prop} {K : Kd α} {bk' : β → Nat} {wf' : β → Prop} {K' : Kd β} (ho : f.offset = off) (hc : P.cellsOf f.type = K.sz) (h : Opn P f.type K bk wf) (h' : OpnF P fs (off + K.sz) K' bk' wf') :
    OpnF P (f :: fs) off (Kd.pair K K') (fun x => bk x.1 + bk' x.2) (fun x => wf x.1 ∧ wf' x.2) := ⟨by
  intro H enc W fuel cs xs hl hx hz
  rw [List.mapM_cons] at hx
  simp only [Option.bind_eq_bind, Option.bind_eq_some_iff, Option.pure_def] at hx
  obtain ⟨u, hu, us, hus, he⟩ := hx
  injection he with he
  subst he
  have hl' : cs.length = off + K.sz + K'.sz := by rw [hl]; show off + (K.sz + K'.sz) = _; omega
  obtain ⟨y, g1, g2, g3⟩ := h'.get enc W fuel cs us hl' hus (by
    rcases hz with hz | hz
    · exact .inl fun n hn => hz n (by simp only [List.map_cons, DataW.weightsEach, List.mem_append]; exact .inr hn)
    · exact .inr (by simp only [List.map_cons, Rows.uptoBulkAll] at hz; omega))
  obtain ⟨x, h1, h2, h3⟩ := h.get enc W fuel _ u.1 u.2 hu (by
    rcases hz with hz | hz
    · exact .inl fun n hn => hz n (by simp only [List.map_cons, DataW.weightsEach, List.mem_append]; exact .inl hn)
    · exact .inr (by simp only [List.map_cons, Rows.uptoBulkAll] at hz; omega))
  rw [ho, hc] at h1
  refine ⟨(x, y), ⟨(cs.drop off).take K.sz, cs.drop (off + K.sz), ?_, h1, g1⟩, ?_, h3, g3⟩
  · rw [← List.drop_drop, List.take_append_drop]
  · simp only [List.map_cons, Rows.uptoBulkAll]; omega⟩
theorem Opn.struct {fs : Array Field} {l : List Field} {K : Kd α} {bk : α → Nat} {wf : α → Prop} (hu : P.underlying t = some (.struct fs)) (hl : fs.toList = l) (hc : P.cellsOf t = K.sz) (h : OpnF P l 0 K bk wf) : Opn P t K bk wf := ⟨by
  intro H enc W fuel cs d ps hd hz
  cases fuel with
  | zero => simp [DataW.trod] at hd
  | succ fuel =>
    unfold DataW.trod at hd
    rw [hu] at hd
    dsimp only at hd
    split at hd
    · rename_i hlen
      rw [Option.map_eq_some_iff] at hd
      obtain ⟨xs, hxs, hd⟩ := hd
      injection hd with h1 _
      subst h1
      rw [hl] at hxs
      obtain ⟨x, g1, g2, g3⟩ := h.get enc W fuel _ xs (by rw [hlen, hc]; omega) hxs (by
        rcases hz with hz | hz
        · refine .inl fun n hn => hz n ?_
          simp only [DataW.weights, hu, hl]
          exact hn
        · exact .inr (by simp only [Rows.uptoBulk] at hz; omega))
      exact ⟨x, by simpa using g1, by simp only [Rows.uptoBulk]; omega, g3⟩
    · cases hd⟩
end
section
variable {P : Program} {t : TypeId} {W : World} {r : Reach} {base : Nat} {v : Value}
theorem okWide_agg {fs : Array Field} (ht : P.underlying t = some (.struct fs)) (h : Value.okWide P W r base t v) : ∃ cs, v = .agg cs := by
  simp only [Value.okWide, ht] at h
  obtain ⟨cs, h, _⟩ := h
  exact ⟨cs, h⟩
theorem okWide_int_ {k : IntKind} (ht : P.underlying t = some (.int k)) (h : Value.okWide P W r base t v) : ∃ n, v = .int k n := by
  simp only [Value.okWide, ht, Cell.okWide] at h
  cases v <;> simp_all [Cell.ok]
theorem okWide_bool_ (ht : P.underlying t = some .bool) (h : Value.okWide P W r base t v) : ∃ b, v = .bool b := by
  simp only [Value.okWide, ht, Cell.okWide] at h
  cases v <;> simp_all [Cell.ok]
theorem toList_inj_ {a b : Array Value} (h : a.toList = b.toList) : a = b := by
  cases a; cases b; simp_all
end
end Go.Proofs.YtoolggpfgadjlaaDoor.Opening
