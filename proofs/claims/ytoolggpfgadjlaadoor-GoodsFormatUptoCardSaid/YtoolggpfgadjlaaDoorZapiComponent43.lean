/- Printed: a Go function in plain Lean, and that its call does what it says. Conditions: those each theorem states. -/
import Derived.Test.YtoolggpfgadjlaaDoorZ0
namespace Go.Proofs.YtoolggpfgadjlaaDoor.Z
open Go.RowKit Go.Proofs.YtoolggpfgadjlaaDoorW.PrintWords Go.Proofs.YtoolggpfgadjlaaDoorW.PrintLast Go.Proofs.YtoolggpfgadjlaaDoorW.PrintMore
attribute [local go_sem high] str_leq str_geq str_gtr   -- strings
attribute [local go_sem] max2_int min2_int max_two min_two max_three min_three max_four min_four   -- for this text's walks alone
set_option linter.unusedVariables false
set_option linter.unusedSimpArgs false

/-! ### api_Component_43: function 43 -/
-- slices.SortStableFunc at fewer than 20 elements: one insertion sort, by what its closure tells
section
open Go.Sort
theorem api_Component_43.inner_pres {α : Type} [Inhabited α] (lt : α → α → Bool) (Q : α → Prop) (a : Nat) : ∀ (j : Nat) (d : Array α), j < d.size → (∀ i, i < d.size → Q d[i]!) → (insInner lt a j d).size = d.size ∧ ∀ i, i < d.size → Q (insInner lt a j d)[i]! := by
 intro j
 induction j with
 | zero => intro d _ h; exact ⟨rfl, h⟩
 | succ j ih =>
  intro d hj h
  unfold insInner
  split
  ·
   have hs := size_swp d (j + 1) j
   have h2 : ∀ i, i < (swp d (j + 1) j).size → Q (swp d (j + 1) j)[i]! := by
    intro i hi
    rw [hs] at hi
    rw [swp_get d hj (by omega)]
    split
    ·
     exact h _ hj
    ·
     split
     ·
      exact h _ (by omega)
     ·
      exact h _ hi
   obtain ⟨h3, h4⟩ := ih (swp d (j + 1) j) (by omega) h2
   exact ⟨h3.trans hs, fun i hi => h4 i (by omega)⟩
  ·
   exact ⟨rfl, h⟩
theorem api_Component_43.outer_pres {α : Type} [Inhabited α] (lt : α → α → Bool) (Q : α → Prop) (a b : Nat) : ∀ (n i : Nat) (d : Array α), b - i = n → b ≤ d.size → (∀ i, i < d.size → Q d[i]!) → (insOuter lt a b i d).size = d.size ∧ ∀ k, k < d.size → Q (insOuter lt a b i d)[k]! := by
 intro n
 induction n with
 | zero =>
  intro i d hn _ h
  rw [insOuter, if_neg (by omega)]
  exact ⟨rfl, h⟩
 | succ n ih =>
  intro i d hn hb h
  rw [insOuter, if_pos (by omega)]
  obtain ⟨h1, h2⟩ := api_Component_43.inner_pres lt Q a i d (by omega) h
  obtain ⟨h3, h4⟩ := ih (i + 1) (insInner lt a i d) (by omega) (by omega) (fun k hk => h2 k (by omega))
  exact ⟨by omega, fun k hk => h4 k (by omega)⟩
theorem api_Component_43.map_get {α β : Type} [Inhabited α] [Inhabited β] (φ : α → β) (d : Array α) (i : Nat) (h : i < d.size) : (d.map φ)[i]! = φ d[i]! := by
 rw [getElem!_pos _ i (by simpa using h), getElem!_pos d i h, Array.getElem_map]
theorem api_Component_43.inner_map {α β : Type} [Inhabited α] [Inhabited β] (φ : α → β) (lt : α → α → Bool) (lt2 : β → β → Bool) (hl : ∀ x y, lt x y = lt2 (φ x) (φ y)) (a : Nat) : ∀ (j : Nat) (d : Array α), j < d.size → (insInner lt a j d).map φ = insInner lt2 a j (d.map φ) := by
 intro j
 induction j with
 | zero => intro d _; rfl
 | succ j ih =>
  intro d hj
  have hsw : (swp d (j + 1) j).map φ = swp (d.map φ) (j + 1) j := by
   unfold swp
   rw [Array.map_setIfInBounds, Array.map_setIfInBounds, api_Component_43.map_get φ d _ hj, api_Component_43.map_get φ d _ (by omega)]
  unfold insInner
  rw [api_Component_43.map_get φ d _ hj, api_Component_43.map_get φ d _ (by omega), ← hl]
  split
  ·
   rw [ih _ (by rw [size_swp]; omega), hsw]
  ·
   rfl
theorem api_Component_43.outer_map {α β : Type} [Inhabited α] [Inhabited β] (φ : α → β) (lt : α → α → Bool) (lt2 : β → β → Bool) (hl : ∀ x y, lt x y = lt2 (φ x) (φ y)) (a b : Nat) : ∀ (n i : Nat) (d : Array α), b - i = n → b ≤ d.size → (insOuter lt a b i d).map φ = insOuter lt2 a b i (d.map φ) := by
 intro n
 induction n with
 | zero =>
  intro i d hn _
  rw [insOuter, if_neg (by omega), insOuter, if_neg (by omega)]
 | succ n ih =>
  intro i d hn hb
  have hs := (api_Component_43.inner_pres lt (fun _ => True) a i d (by omega) (fun _ _ => trivial)).1
  have e1 : insOuter lt a b i d = insOuter lt a b (i + 1) (insInner lt a i d) := by rw [insOuter, if_pos (by omega)]
  have e2 : insOuter lt2 a b i (d.map φ) = insOuter lt2 a b (i + 1) (insInner lt2 a i (d.map φ)) := by rw [insOuter, if_pos (by omega)]
  rw [e1, e2, ih (i + 1) _ (by omega) (by omega), api_Component_43.inner_map φ lt lt2 hl a i d (by omega)]
-- the cells of an element: what it leads to, and its number
def api_Component_43.enc (p : (Option Addr × Nat) × S38) : List Value := [.slice p.1.1 p.2.f0.length p.1.2, .int .i64 p.2.f1]
instance : Inhabited S38 := ⟨z38⟩
def api_Component_43.cf (x y : S38) : Int := wrap64 (y.f1 - x.f1)
def api_Component_43.f (l0 : List S38) : Option (List S38) := if l0.length < 20 then some (Go.Sort.insertionSort (Go.Proofs.ltOf api_Component_43.cf) l0.toArray 0 l0.length).toList else none
theorem api_Component_43.closure (x y : (Option Addr × Nat) × S38) (W : World) : Calls Tryd.prog 44 #[.agg (api_Component_43.enc x).toArray, .agg (api_Component_43.enc y).toArray] W fun e w' => e = .returned (.int .i64 (api_Component_43.cf x.2 y.2)) ∧ ∃ q os', w' = grow (W.drewN q) os' := by
 show Calls Tryd.prog 44 #[.agg #[.slice x.1.1 x.2.f0.length x.1.2, .int .i64 x.2.f1], .agg #[.slice y.1.1 y.2.f0.length y.1.2, .int .i64 y.2.f1]] W _
 unfold api_Component_43.cf
 go_enter Tryd.func44, Tryd.ntmps44
 go_wp2
 go_ret
 exact ⟨rfl, 0, _, by rw [alloc_eq_grow, alloc_eq_grow, grow_grow]; rfl⟩
-- the walk: one insertion sort
set_option maxHeartbeats 1000000 in
theorem api_Component_43.walk (A : Option Addr) (n c : Nat) (hn : n < 20) (Q : World → Prop) (w : World)
  (hins : Calls Tryd.prog 65 #[.slice A n c, .int .i64 0, .int .i64 n, .func (.func 44) #[] #[]] w fun e w' => e = .returned (.tuple #[]) ∧ Q w') :
  Calls Tryd.prog 43 #[.slice A n c, .func (.func 44) #[] #[]] w fun e w' => e = .returned (.tuple #[]) ∧ Q w' := by
 have h2 : Calls Tryd.prog 55 #[.slice A n c, .int .i64 n, .func (.func 44) #[] #[]] w fun e w' => e = .returned (.tuple #[]) ∧ Q w' := by
  have c0 : ¬ (20 : Int) ≤ (n : Int) := by omega
  have c1 : ¬ (20 : Int) < (n : Int) := by omega
  go_enter Tryd.func55, Tryd.ntmps55
  go_wp2
  refine wp_loop_rounds 1 ?_
  rw [rounds_succ]
  go_wp2_with (go_at_call 65; refine hins.mono ?_; rintro e w' ⟨rfl, hQ⟩)
  refine wp_loop_rounds 1 ?_
  rw [rounds_succ]
  go_wp2
  go_end0
  exact ⟨rfl, hQ⟩
 go_enter Tryd.func43, Tryd.ntmps43
 go_wp2_with (go_at_call 55; refine h2.mono ?_; rintro e w' ⟨rfl, hQ⟩)
 go_end0
 exact ⟨rfl, hQ⟩
end
section
open Go.Sort
theorem api_Component_43.flat_chunk (d : Array ((Option Addr × Nat) × S38)) (j : Nat) (hj : j < d.size) : ((flatK api_Component_43.enc 2 d).toList.drop (j * 2)).take 2 = api_Component_43.enc d[j]! := by
 have hl : (flatK api_Component_43.enc 2 d).toList.length = d.size * 2 := by rw [Array.length_toList, size_flatK]
 have hg : ∀ t, t < d.size * 2 → (flatK api_Component_43.enc 2 d).toList[t]? = some (api_Component_43.enc d[t / 2]!)[t % 2]! := by
  intro t ht
  rw [Array.getElem?_toList, Array.getElem?_eq_getElem (by rw [size_flatK]; exact ht), ← getElem!_pos _ t (by rw [size_flatK]; exact ht), get_flatK _ _ _ _ ht]
 apply List.ext_getElem?
 intro i
 rw [List.getElem?_take]
 split
 ·
  rename_i hi
  rw [List.getElem?_drop, hg _ (by omega)]
  have e1 : (j * 2 + i) / 2 = j := by omega
  have e2 : (j * 2 + i) % 2 = i := by omega
  rw [e1, e2]
  match i, hi with
  | 0, _ => rfl
  | 1, _ => rfl
 ·
  rename_i hi
  rw [List.getElem?_eq_none (by show 2 ≤ i; omega)]
set_option maxHeartbeats 1000000 in
theorem api_Component_43.calls (okN_ : Nat → Prop) (u9000_ : Value) (l0 : List S38) (r : List S38) (w0 w : World) (hB : Below w0.heap.size w0 w) (ho0 : Kd.N k38 38 w w0.heap.size okN_ u9000_ l0) (h : api_Component_43.f l0 = some r) :
  Calls Tryd.prog 43 #[u9000_, .func (.func 44) #[] #[]] w fun e w' => e = .returned (.tuple #[]) ∧ Kd.N k38 38 w' w0.heap.size okN_ u9000_ r ∧ Below w0.heap.size w0 w' ∧ Kept w w' (fun k_ => some k_ = u9000_.ownBlock) := by
 unfold api_Component_43.f at h
 split at h
 case isFalse => cases h
 case isTrue hn =>
 obtain rfl := Option.some.inj h
 clear h
 obtain ⟨hok, rws, hrl, ⟨_, inner, hown, hreps⟩, hfk⟩ := ho0
 have hl9 : rws.length = l0.length := hrl
 rw [hl9] at hown
 rcases hown.2 with ⟨rfl, hz⟩ | ⟨g, cap, cur, rfl, hg, hh, hnc, hcm, hcs, htake⟩
 ·
  obtain rfl : l0 = [] := List.length_eq_zero_iff.1 hz
  have hr : (Go.Sort.insertionSort (Go.Proofs.ltOf api_Component_43.cf) ([] : List S38).toArray 0 ([] : List S38).length).toList = [] := by
   unfold Go.Sort.insertionSort
   rw [insOuter, if_neg (by decide)]
  rw [hr]
  refine (api_Component_43.walk none 0 0 (by omega) (fun w' => w' = w) w ?_).mono ?_
  ·
   go_enter Tryd.func65, Tryd.ntmps65
   go_wp2
   refine wp_loop_rounds 1 ?_
   rw [rounds_succ]
   go_wp2
   go_end0
   exact ⟨rfl, rfl⟩
  ·
   rintro e w' ⟨rfl, rfl⟩
   exact ⟨rfl, Kd.N_nil _ _ _ _ _, hB, Kept.refl _ _⟩
 ·
  have hch : ∀ j : Fin l0.length, ∃ a : Option Addr × Nat, (inner.drop (j.1 * 2)).take 2 = api_Component_43.enc (a, l0[j.1]) ∧ Kd.FK k38 w (fun k => okN_ k ∧ some k ≠ (Value.slice (some ⟨g, 0, none⟩) l0.length cap).ownBlock) l0[j.1] (api_Component_43.enc (a, l0[j.1])) := by
   intro j
   have hj9 : j.1 < rws.length := by rw [hl9]; exact j.2
   have hM := (hreps.2 j.1 _ (List.getElem?_eq_getElem hj9)).1
   have hF9 := hfk j.1 _ _ (List.getElem?_eq_getElem j.2) (List.getElem?_eq_getElem hj9)
   obtain ⟨A, c, hc, _⟩ := k38_openF hF9
   exact ⟨(A, c), Eq.trans hM hc, by rw [show api_Component_43.enc ((A, c), l0[j.1]) = _ from hc.symm]; exact hF9⟩
  obtain ⟨F, hF⟩ := Classical.axiomOfChoice hch
  let d : Array ((Option Addr × Nat) × S38) := Array.ofFn fun j : Fin l0.length => (F j, l0[j.1])
  have hds : d.size = l0.length := Array.size_ofFn
  have hdg : ∀ j (hj : j < l0.length), d[j]! = (F ⟨j, hj⟩, l0[j]) := by
   intro j hj
   rw [getElem!_pos d j (by rw [hds]; exact hj)]
   exact Array.getElem_ofFn _
  have hdm : d.map (·.2) = l0.toArray := by
   apply Array.ext
   ·
    rw [Array.size_map, hds]; rfl
   ·
    intro j h1 h2
    rw [Array.getElem_map]
    have hj : j < l0.length := h2
    rw [← getElem!_pos d j (by rw [hds]; exact hj), hdg j hj]
    rfl
  have hch2 : ∀ j, j < l0.length → (inner.drop (j * 2)).take 2 = api_Component_43.enc d[j]! := fun j hj => by rw [hdg j hj]; exact (hF ⟨j, hj⟩).1
  have hQ : ∀ i, i < d.size → Kd.FK k38 w (fun k => okN_ k ∧ some k ≠ (Value.slice (some ⟨g, 0, none⟩) l0.length cap).ownBlock) d[i]!.2 (api_Component_43.enc d[i]!) := fun i hi => by
   rw [hdg i (by omega)]; exact (hF ⟨i, by omega⟩).2
  clear_value d
  have hgs : g < w.heap.size := (Array.getElem?_eq_some_iff.1 hh).1
  -- the row's cells
  rw [show l0.length * (Kd.raw k38.sz).sz = l0.length * 2 from rfl] at htake
  have hHK : HoldsK api_Component_43.enc 2 w g 0 d := by
   intro j hj
   rw [size_flatK] at hj
   refine ⟨?_, blk_frozen hh _⟩
   rw [Nat.zero_add, blk_cell hh j, get_flatK _ _ _ _ hj]
   have hj2 : j / 2 < l0.length := by omega
   have e1 := congrArg (fun l => l[j % 2]?) (hch2 (j / 2) hj2)
   simp only [List.getElem?_take, List.getElem?_drop] at e1
   rw [if_pos (by omega), show j / 2 * 2 + j % 2 = j by omega, ← htake, List.getElem?_take, if_pos (by omega), Array.getElem?_toList] at e1
   rw [e1]
   have h3 : j % 2 = 0 ∨ j % 2 = 1 := by omega
   rcases h3 with h3 | h3 <;> rw [h3] <;> rfl
  have hins := Tryd.insertionSortCmp (α := (Option Addr × Nat) × S38) 2 Tryd.isAgg38 Tryd.sizeOf38 api_Component_43.enc (fun _ => rfl) (fun x v hv => by simp only [api_Component_43.enc, List.mem_cons, List.not_mem_nil, or_false] at hv; rcases hv with rfl | rfl <;> rfl) (fun x y => api_Component_43.cf x.2 y.2) 44 #[] g 0 cap 0 d.size d w
   (enters_of Tryd.func44 (by kernel_rfl) rfl) (fun m os dk _ x y => api_Component_43.closure x y _) hHK hgs (Nat.zero_le _) (Nat.le_refl _) (by omega)
  obtain ⟨hs2, hQ2⟩ := api_Component_43.outer_pres (Go.Proofs.ltOf fun x y : (Option Addr × Nat) × S38 => api_Component_43.cf x.2 y.2) (fun p => Kd.FK k38 w (fun k => okN_ k ∧ some k ≠ (Value.slice (some ⟨g, 0, none⟩) l0.length cap).ownBlock) p.2 (api_Component_43.enc p)) 0 d.size _ (0 + 1) d rfl (Nat.le_refl _) hQ
  have hmp := api_Component_43.outer_map (fun x : (Option Addr × Nat) × S38 => x.2) (Go.Proofs.ltOf fun x y : (Option Addr × Nat) × S38 => api_Component_43.cf x.2 y.2) (Go.Proofs.ltOf api_Component_43.cf) (fun _ _ => rfl) 0 d.size _ (0 + 1) d rfl (Nat.le_refl _)
  change (Go.Sort.insertionSort (Go.Proofs.ltOf fun x y : (Option Addr × Nat) × S38 => api_Component_43.cf x.2 y.2) d 0 d.size).map _ = Go.Sort.insertionSort (Go.Proofs.ltOf api_Component_43.cf) (d.map _) 0 d.size at hmp
  rw [hdm, hds] at hmp
  rw [hds] at hins hs2 hQ2
  change (Go.Sort.insertionSort (Go.Proofs.ltOf fun x y : (Option Addr × Nat) × S38 => api_Component_43.cf x.2 y.2) d 0 l0.length).size = _ at hs2
  change ∀ k, k < l0.length → Kd.FK k38 w (fun k => okN_ k ∧ some k ≠ (Value.slice (some ⟨g, 0, none⟩) l0.length cap).ownBlock) (Go.Sort.insertionSort (Go.Proofs.ltOf fun x y : (Option Addr × Nat) × S38 => api_Component_43.cf x.2 y.2) d 0 l0.length)[k]!.2 (api_Component_43.enc (Go.Sort.insertionSort (Go.Proofs.ltOf fun x y : (Option Addr × Nat) × S38 => api_Component_43.cf x.2 y.2) d 0 l0.length)[k]!) at hQ2
  rw [← hmp]
  generalize Go.Sort.insertionSort (Go.Proofs.ltOf fun x y : (Option Addr × Nat) × S38 => api_Component_43.cf x.2 y.2) d 0 l0.length = d2 at *
  refine (api_Component_43.walk (some ⟨g, 0, none⟩) l0.length cap hn _ w (hins.mono fun e w' h => h)).mono ?_
  rintro e w' ⟨rfl, m, os, rfl⟩
  -- the world behind
  have hheap : ∀ k, k < w.heap.size → (sortWorldK api_Component_43.enc 2 w g 0 m d2 os).heap[k]? = if k = g then some (.cells (putCells id 0 (flatK api_Component_43.enc 2 d2) cur) 38 (0, 0)) else w.heap[k]? := by
   intro k hk
   show ((w.heap.modify g (onCells (putCells id 0 (flatK api_Component_43.enc 2 d2)))) ++ os)[k]? = _
   rw [Array.getElem?_append_left (by rw [Array.size_modify]; exact hk), Array.getElem?_modify]
   by_cases hkg : k = g
   ·
    subst hkg
    rw [if_pos rfl, if_pos rfl, hh]
    rfl
   ·
    rw [if_neg (Ne.symm hkg), if_neg hkg]
  have hsz : w.heap.size ≤ (sortWorldK api_Component_43.enc 2 w g 0 m d2 os).heap.size := by
   show _ ≤ ((w.heap.modify g (onCells (putCells id 0 (flatK api_Component_43.enc 2 d2)))) ++ os).size
   rw [Array.size_append, Array.size_modify]
   exact Nat.le_add_right _ _
  have hl2 : (d2.map fun x => x.2).toList.length = l0.length := by rw [show (d2.map fun x => x.2).toList.length = (d2.map fun x => x.2).size from rfl, Array.size_map, hs2]
  have hl3 : (d2.toList.map api_Component_43.enc).length = l0.length := by rw [List.length_map]; exact hs2
  refine ⟨rfl, ⟨hok, d2.toList.map api_Component_43.enc, by rw [hl3, hl2], ⟨fun k hk => hk.symm, (flatK api_Component_43.enc 2 d2).toList, ⟨by rw [hl3, Array.length_toList, size_flatK, hs2]; rfl, .inr ⟨g, cap, putCells id 0 (flatK api_Component_43.enc 2 d2) cur, by rw [hl3], hg, ?_, by rw [hl3]; exact hnc, hcm, by rw [← hcs]; exact Array.size_mapIdx, ?_⟩⟩, ?_⟩, ?_⟩, ?_, hsz, ?_⟩
  ·
   rw [hheap g hgs, if_pos rfl]
  ·
   rw [hl3]
   apply List.ext_getElem?
   intro t
   rw [List.getElem?_take]
   have hcs2 : cur.size = cap * 2 := hcs
   by_cases ht : t < l0.length * 2
   ·
    have ht2 : t < (flatK api_Component_43.enc 2 d2).size := by rw [size_flatK, hs2]; exact ht
    rw [show l0.length * (Kd.raw k38.sz).sz = l0.length * 2 from rfl, if_pos ht, Array.getElem?_toList, Array.getElem?_toList, Array.getElem?_eq_getElem ht2]
    unfold putCells
    rw [Array.getElem?_mapIdx, Array.getElem?_eq_getElem (by omega)]
    simp only [Option.map_some, Nat.zero_le, true_and, Nat.zero_add, Nat.sub_zero, id]
    rw [if_pos ht2, getElem!_pos _ t ht2]
   ·
    rw [show l0.length * (Kd.raw k38.sz).sz = l0.length * 2 from rfl, if_neg ht, Array.getElem?_toList, Array.getElem?_eq_none (by rw [size_flatK, hs2]; omega)]
  ·
   refine ⟨by rw [hl3, Array.length_toList, size_flatK, hs2]; rfl, fun j p hj => ?_⟩
   have hjl : j < d2.size := by
    have := (List.getElem?_eq_some_iff.1 hj).1
    rwa [List.length_map, Array.length_toList] at this
   have hp : api_Component_43.enc d2[j]! = p := by
    rw [List.getElem?_map, Array.getElem?_toList, Array.getElem?_eq_getElem hjl] at hj
    rw [getElem!_pos d2 j hjl]
    exact Option.some.inj hj
   refine ⟨?_, ?_, ?_⟩
   ·
    show ((flatK api_Component_43.enc 2 d2).toList.drop (j * 2)).take 2 = p
    rw [api_Component_43.flat_chunk d2 j hjl, hp]
   ·
    show (((flatK api_Component_43.enc 2 d2).toList.drop (j * 2)).take 2).length = 2
    rw [api_Component_43.flat_chunk d2 j hjl]
    rfl
   ·
    show ∀ u ∈ ((flatK api_Component_43.enc 2 d2).toList.drop (j * 2)).take 2, _
    rw [api_Component_43.flat_chunk d2 j hjl]
    intro u hu
    simp only [api_Component_43.enc, List.mem_cons, List.not_mem_nil, or_false] at hu
    rcases hu with rfl | rfl <;> rfl
  ·
   intro j p c hj hc
   have hjl : j < d2.size := by
    have := (List.getElem?_eq_some_iff.1 hc).1
    rwa [List.length_map, Array.length_toList] at this
   have hp : p = d2[j]!.2 := by
    rw [Array.getElem?_toList, Array.getElem?_eq_getElem (by rw [Array.size_map]; exact hjl), Array.getElem_map] at hj
    rw [getElem!_pos d2 j hjl]
    exact (Option.some.inj hj).symm
   have hc2 : c = api_Component_43.enc d2[j]! := by
    rw [List.getElem?_map, Array.getElem?_toList, Array.getElem?_eq_getElem hjl] at hc
    rw [getElem!_pos d2 j hjl]
    exact (Option.some.inj hc).symm
   rw [hp, hc2]
   refine Kd.FK_step (hQ2 j (by omega)) (fun k hk hlt => ?_)
   rw [hheap k hlt, if_neg (fun he => hk.2 (by rw [he]; rfl))]
  ·
   refine ⟨hB.os, hB.tape, hB.output, Nat.le_trans hB.size hsz, fun k hk => ?_⟩
   rw [hheap k (Nat.lt_of_lt_of_le hk hB.size), if_neg (by omega)]
   exact hB.block k hk
  ·
   intro k hk hP
   rw [hheap k hk, if_neg (fun he => hP (by rw [he]; rfl))]
end

end Go.Proofs.YtoolggpfgadjlaaDoor.Z
