/- Printed: a Go function in plain Lean, and that its call does what it says. Conditions: those each theorem states. -/
import Derived.Test.YtoolggpfgadjlaaDoorProg
import Derived.Below
import Derived.Deep.Draws
import Derived.Deep.AppendLies
import Derived.Maps.AppendAt
import Derived.OwnWalk
import Derived.Laws.BytesArg
import Derived.Laws.MakeOwn
import Derived.Laws.OwnMore
import Derived.Deep.OwnRows
import Derived.Tactics
import Derived.Lib.ConvBytes
import Derived.Laws.Slices
import Derived.WalkKit
import Derived.KernelRfl
import Derived.RowKit3
import Derived.Deep.LoopGhost
import Derived.Deep.QuietTactic
import Derived.BigQuiet
import Derived.WideLaws
import Derived.Deep.DeepCutAuto
import Derived.Deep.CutBlock
import Derived.Deep.RegionHeld3
import Derived.Laws.Rows
import Derived.Lib.AppendStr
import Derived.ArgAppend
import Derived.Laws.IdiomCopy
import Derived.OrdersHeld
import Derived.Laws.BitsLemmas
import Derived.RowKit
import Derived.WalkSpells
import Derived.LoopN
import Derived.WalkMore
import Derived.Lib.SliceRun
import Derived.Lib.SlBytesConst
import Derived.ScopeJumps
import Derived.Test.YtoolggpfgadjlaaDoorShelf
import Derived.Lib.SmallJoins
import Derived.Lib.AppendIntMem
import Derived.Laws.RangeAny
import Derived.Laws.RangeString
import Derived.LoopTactic
import Derived.Test.YtoolggpfgadjlaaDoorUMore0
namespace Go.Proofs.YtoolggpfgadjlaaDoor.Z
open Go.RowKit Go.Proofs.YtoolggpfgadjlaaDoorW.PrintWords Go.Proofs.YtoolggpfgadjlaaDoorW.PrintLast Go.Proofs.YtoolggpfgadjlaaDoorW.PrintMore
attribute [local go_sem] max2_int min2_int max_two min_two max_three min_three max_four min_four   -- for this text's walks alone
set_option linter.unusedVariables false
set_option linter.unusedSimpArgs false



def errW : Option Int → Value
  | none => .nilIface
  | some c => .iface 105 (.int .i64 c)
theorem errW_none : errW none = .nilIface := rfl
theorem errW_some (c : Int) : errW (some c) = .iface 105 (.int .i64 c) := rfl

theorem info3 : (Tryd.prog.info? 3).map (fun i => (i.zero, i.size, i.bytes)) = some (some (.int .i64 0), 1, 8) := by kernel_rfl
theorem info5 : (Tryd.prog.info? 5).map (fun i => (i.zero, i.size, i.bytes)) = some (some (.int .u8 0), 1, 1) := by kernel_rfl
theorem info9 : (Tryd.prog.info? 9).map (fun i => (i.zero, i.size, i.bytes)) = some (some (.string ⟨#[]⟩), 1, 16) := by kernel_rfl
theorem info36 : (Tryd.prog.info? 36).map (fun i => (i.zero, i.size, i.bytes)) = some (some (.agg #[(.string ⟨#[]⟩), (.int .i64 0)]), 2, 24) := by kernel_rfl
theorem info38 : (Tryd.prog.info? 38).map (fun i => (i.zero, i.size, i.bytes)) = some (some (.agg #[(.slice none 0 0), (.int .i64 0)]), 2, 32) := by kernel_rfl
-- the values' own types
/-! #### struct type 36 -/
structure S36 where
  f0 : ByteArray
  f1 : Int
def z36 : S36 := ⟨(⟨#[]⟩ : ByteArray), (0 : Int)⟩
def k36 : Kd S36 := Kd.iso (Kd.pair Kd.string (Kd.int .i64)) (fun x : S36 => (x.f0, x.f1))
theorem k36_heap : Kd.Heap k36 := Kd.heap_iso _ (Kd.heap_pair Kd.heap_string (Kd.heap_int .i64))
theorem k36_open {w : World} {x : S36} {cs : List Value} (h : k36.K w x cs) : cs = [.string x.f0, .int .i64 x.f1] := by
  obtain ⟨_, _, rfl, rfl, rfl⟩ := h
  exact rfl
theorem k36_openM {w : World} {base : Nat} {ok : Nat → Prop} {x : S36} {cs : List Value} (h : k36.M w base ok x cs) : cs = [.string x.f0, .int .i64 x.f1] := by
  obtain ⟨_, _, rfl, rfl, rfl⟩ := h
  exact rfl
theorem k36_mk (w : World) (x : S36)  : k36.K w x [.string x.f0, .int .i64 x.f1] := ⟨[.string x.f0], [.int .i64 x.f1], rfl, rfl, rfl⟩
theorem k36_mkM (w : World) (base : Nat) (ok : Nat → Prop) (x : S36)  : k36.M w base ok x [.string x.f0, .int .i64 x.f1] := ⟨[.string x.f0], [.int .i64 x.f1], rfl, rfl, rfl⟩
theorem k36_mkF (W : World) (ok : Nat → Prop) (x : S36) : Kd.FK k36 W ok x [.string x.f0, .int .i64 x.f1] := fun W2 _ => k36_mk W2 x
def rd_T36 (xs : List S36) (i : Int) : S36 := xs.getD i.toNat z36
theorem at_T36 {w : World} {A : Option Addr} {n : Nat} {xs : List S36} (h : Kd.C k36 w A n xs) (i : Int) (h0 : 0 ≤ i) (h1 : i < n) : ∃ ad , A = some ad ∧ w.cell? (ad.add (i.toNat * 2)) = some (.string (rd_T36 xs i).f0) ∧ w.cell? ⟨(ad.add (i.toNat * 2)).block, (ad.add (i.toNat * 2)).off + 1, none⟩ = some (.int .i64 (rd_T36 xs i).f1) := by
  obtain ⟨ad, c, e, _, hK, hc0⟩ := Kd.C_get h z36 i h0 h1
  have hc : ∀ j u, c[j]? = some u → w.cell? (ad.add (i.toNat * 2 + j)) = some u := hc0
  obtain rfl := k36_open hK
  exact ⟨ad, e, hc 0 _ rfl, by rw [← add_field _ _ 1 (by omega)]; exact hc 1 _ rfl⟩

def rd_L3 (xs : List (List ByteArray)) (i : Int) : (List ByteArray) := xs.getD i.toNat ([] : List ByteArray)
theorem at_L3 {w : World} {A : Option Addr} {n : Nat} {xs : List (List ByteArray)} (h : Kd.C (Kd.slice 9 Kd.string) w A n xs) (i : Int) (h0 : 0 ≤ i) (h1 : i < n) : ∃ ad A0 c0, A = some ad ∧ w.cell? (ad.add i.toNat) = some (.slice A0 (rd_L3 xs i).length c0) ∧ (rd_L3 xs i).length ≤ c0 ∧ Kd.string.C w A0 (rd_L3 xs i).length (rd_L3 xs i) := by
  obtain ⟨ad, c, e, _, hK, hc0⟩ := Kd.C_get h ([] : List ByteArray) i h0 h1
  have hc : ∀ j u, c[j]? = some u → w.cell? (ad.add (i.toNat * 1 + j)) = some u := hc0
  obtain ⟨A0, c0, rfl, l0, g0⟩ := hK
  exact ⟨ad, A0, c0, e, by have hq := hc 0 _ rfl; rwa [Nat.mul_one, Nat.add_zero] at hq, l0, g0⟩

/-! #### struct type 38 -/
structure S38 where
  f0 : (List ByteArray)
  f1 : Int
def z38 : S38 := ⟨([] : List ByteArray), (0 : Int)⟩
def k38 : Kd S38 := Kd.iso (Kd.pair (Kd.slice 9 Kd.string) (Kd.int .i64)) (fun x : S38 => (x.f0, x.f1))
theorem k38_heap : Kd.Heap k38 := Kd.heap_iso _ (Kd.heap_pair (Kd.heap_slice 9 Kd.heap_string) (Kd.heap_int .i64))
theorem k38_open {w : World} {x : S38} {cs : List Value} (h : k38.K w x cs) : ∃ A0 c0, cs = [.slice A0 x.f0.length c0, .int .i64 x.f1] ∧ x.f0.length ≤ c0 ∧ Kd.string.C w A0 x.f0.length x.f0 := by
  obtain ⟨_, _, rfl, ⟨A0, c0, rfl, l0, g0⟩, rfl⟩ := h
  exact ⟨A0, c0, rfl, l0, g0⟩
theorem k38_openM {w : World} {base : Nat} {ok : Nat → Prop} {x : S38} {cs : List Value} (h : k38.M w base ok x cs) : ∃ v0, cs = [v0, .int .i64 x.f1] ∧ Kd.string.R 9 w base ok v0 x.f0 := by
  obtain ⟨_, _, rfl, ⟨v0, rfl, g0⟩, rfl⟩ := h
  exact ⟨v0, rfl, g0⟩
theorem k38_mk (w : World) (x : S38) {A0 : Option Addr} {c0 : Nat} (l0 : x.f0.length ≤ c0) (g0 : Kd.string.C w A0 x.f0.length x.f0) : k38.K w x [.slice A0 x.f0.length c0, .int .i64 x.f1] := ⟨[.slice A0 x.f0.length c0], [.int .i64 x.f1], rfl, ⟨A0, c0, rfl, l0, g0⟩, rfl⟩
theorem k38_mkM (w : World) (base : Nat) (ok : Nat → Prop) (x : S38) {v0 : Value} (g0 : Kd.string.R 9 w base ok v0 x.f0) : k38.M w base ok x [v0, .int .i64 x.f1] := ⟨[v0], [.int .i64 x.f1], rfl, ⟨v0, rfl, g0⟩, rfl⟩
theorem k38_openF {W : World} {ok : Nat → Prop} {x : S38} {cs : List Value} (h : Kd.FK k38 W ok x cs) : ∃ A0 c0, cs = [.slice A0 x.f0.length c0, .int .i64 x.f1] ∧ x.f0.length ≤ c0 ∧ Kd.F Kd.string W ok A0 x.f0.length x.f0 := by
  obtain ⟨A0, c0, rfl, l0, _⟩ := k38_open (Kd.FK_now h)
  exact ⟨A0, c0, rfl, l0, (fun W' hW => by obtain ⟨A0_, c0_, he, l0_, g0_⟩ := k38_open (h W' hW); injection (Option.some.inj (show some (Value.slice A0 x.f0.length c0) = some (Value.slice A0_ x.f0.length c0_) from congrArg (fun l => l[0]?) he)) with ha_ _ _; rw [ha_]; exact g0_)⟩
theorem k38_mkF (W : World) (ok : Nat → Prop) (x : S38) {A0 : Option Addr} {c0 : Nat} (l0 : x.f0.length ≤ c0) (g0 : Kd.F Kd.string W ok A0 x.f0.length x.f0) : Kd.FK k38 W ok x [.slice A0 x.f0.length c0, .int .i64 x.f1] := fun W2 hW => k38_mk W2 x l0 (g0 W2 hW)
def rd_T38 (xs : List S38) (i : Int) : S38 := xs.getD i.toNat z38
theorem at_T38 {w : World} {A : Option Addr} {n : Nat} {xs : List S38} (h : Kd.C k38 w A n xs) (i : Int) (h0 : 0 ≤ i) (h1 : i < n) : ∃ ad A0 c0, A = some ad ∧ w.cell? (ad.add (i.toNat * 2)) = some (.slice A0 (rd_T38 xs i).f0.length c0) ∧ w.cell? ⟨(ad.add (i.toNat * 2)).block, (ad.add (i.toNat * 2)).off + 1, none⟩ = some (.int .i64 (rd_T38 xs i).f1) ∧ (rd_T38 xs i).f0.length ≤ c0 ∧ Kd.string.C w A0 (rd_T38 xs i).f0.length (rd_T38 xs i).f0 := by
  obtain ⟨ad, c, e, _, hK, hc0⟩ := Kd.C_get h z38 i h0 h1
  have hc : ∀ j u, c[j]? = some u → w.cell? (ad.add (i.toNat * 2 + j)) = some u := hc0
  obtain ⟨A0, c0, rfl, l0, g0⟩ := k38_open hK
  exact ⟨ad, A0, c0, e, hc 0 _ rfl, by rw [← add_field _ _ 1 (by omega)]; exact hc 1 _ rfl, l0, g0⟩

def rd_L5 (xs : List (List Int)) (i : Int) : (List Int) := xs.getD i.toNat ([] : List Int)
theorem at_L5 {w : World} {A : Option Addr} {n : Nat} {xs : List (List Int)} (h : Kd.C (Kd.slice 3 (Kd.int .i64)) w A n xs) (i : Int) (h0 : 0 ≤ i) (h1 : i < n) : ∃ ad A0 c0, A = some ad ∧ w.cell? (ad.add i.toNat) = some (.slice A0 (rd_L5 xs i).length c0) ∧ (rd_L5 xs i).length ≤ c0 ∧ (Kd.int .i64).C w A0 (rd_L5 xs i).length (rd_L5 xs i) := by
  obtain ⟨ad, c, e, _, hK, hc0⟩ := Kd.C_get h ([] : List Int) i h0 h1
  have hc : ∀ j u, c[j]? = some u → w.cell? (ad.add (i.toNat * 1 + j)) = some u := hc0
  obtain ⟨A0, c0, rfl, l0, g0⟩ := hK
  exact ⟨ad, A0, c0, e, by have hq := hc 0 _ rfl; rwa [Nat.mul_one, Nat.add_zero] at hq, l0, g0⟩

def rd_L8 (xs : List (List S38)) (i : Int) : (List S38) := xs.getD i.toNat ([] : List S38)
theorem at_L8 {w : World} {A : Option Addr} {n : Nat} {xs : List (List S38)} (h : Kd.C (Kd.slice 38 k38) w A n xs) (i : Int) (h0 : 0 ≤ i) (h1 : i < n) : ∃ ad A0 c0, A = some ad ∧ w.cell? (ad.add i.toNat) = some (.slice A0 (rd_L8 xs i).length c0) ∧ (rd_L8 xs i).length ≤ c0 ∧ k38.C w A0 (rd_L8 xs i).length (rd_L8 xs i) := by
  obtain ⟨ad, c, e, _, hK, hc0⟩ := Kd.C_get h ([] : List S38) i h0 h1
  have hc : ∀ j u, c[j]? = some u → w.cell? (ad.add (i.toNat * 1 + j)) = some u := hc0
  obtain ⟨A0, c0, rfl, l0, g0⟩ := hK
  exact ⟨ad, A0, c0, e, by have hq := hc 0 _ rfl; rwa [Nat.mul_one, Nat.add_zero] at hq, l0, g0⟩

section
variable {P : Program} {ops : Array Oper} {rest : List Oper} {o : Oper} {a : Act} {Q : Exit → Act → World → Prop} {Kc : Act → World → Prop}
theorem lit_event {W : World} (hgd : o.guard = none) {N : Tmp} (_hd : o.dst = some N) {cs : Array Value} {t : TypeId} {n : Nat}
    (hrun : (execOp a.eval o).run P W = .ok (.value (.slice (some ⟨W.heap.size, 0, none⟩) n n)) (W.alloc (.cells cs t (0, 0))))
    (h : ∀ g, g = W.heap.size → ∀ w1, w1.heap[g]? = some (.cells cs t (0, 0)) → Below W.heap.size W w1 → wpList P ops Q rest (a.put o.dst (.slice (some ⟨g, 0, none⟩) n n)) w1) : wpList P ops Q (o :: rest) a W :=
  Kd.event_run hgd hrun (h _ rfl _ (blk_new W _) (below_alloc (Below.refl _ _) _))
theorem lit_step {W : World} (hw : Region.wanted o (yielded ops a.tmps) = true) {N : Tmp} (_hd : o.dst = some N) {cs : Array Value} {t : TypeId} {n : Nat}
    (hrun : (execOp a.eval o).run P W = .ok (.value (.slice (some ⟨W.heap.size, 0, none⟩) n n)) (W.alloc (.cells cs t (0, 0))))
    (h : ∀ g, g = W.heap.size → ∀ w1, w1.heap[g]? = some (.cells cs t (0, 0)) → Below W.heap.size W w1 → Kc (a.put o.dst (.slice (some ⟨g, 0, none⟩) n n)) w1) : if Region.wanted o (yielded ops a.tmps) = true then Oper.wp P o a W Kc Q else Kc (a.put o.dst undef) W :=
  event_step hw hrun (h _ rfl _ (blk_new W _) (below_alloc (Below.refl _ _) _))
end
section
variable {P : Program} {ops : Array Oper} {rest : List Oper} {o1 o2 : Oper} {a : Act} {Q : Exit → Act → World → Prop}
-- '[]byte("..")' of a constant: the literal's row and, behind it, a conversion to its own type: a row that is only read
theorem frz_event {W : World} (h1 : o1.guard = none) {N : Tmp} (h2 : ∀ v, Region.wanted o2 (yielded ops (a.put (some N) v).tmps) = true) (hN : o1.dst = some N) (t e : TypeId) (ht : P.underlying t = some (.slice e)) (he : P.underlying e = some (.int .u8)) (ho2 : o2.op = .convert t t (.tmp N)) {xs L : List Int} (hx : some L = some xs)
    (hrun : (execOp a.eval o1).run P W = .ok (.value (.slice (some ⟨W.heap.size, 0, none⟩) L.length L.length)) (W.alloc (.cells (L.map (Value.int .u8)).toArray e)))
    (hm : L.length ≤ 9223372036854775807) (hev : ∀ v, (a.put (some N) v).eval (.tmp N) = v)
    (h : ∀ v w1, Kd.V (Kd.int .u8) e w1 W.heap.size (fun k_ => W.heap.size ≤ k_) v xs → Below W.heap.size W w1 → wpList P ops Q rest ((a.put (some N) v).put o2.dst v) w1) : wpList P ops Q (o1 :: o2 :: rest) a W := by
  obtain rfl := Option.some.inj hx
  refine Kd.event_run h1 hrun ?_
  rw [hN]
  have hcv := Lib.run_convert_bytes_const (P := P) W t e (L.map (Value.int .u8)).toArray L.length L.length ht he
  have hrun2 : (execOp (a.put (some N) (.slice (some ⟨W.heap.size, 0, none⟩) L.length L.length)).eval o2).run P (W.alloc (.cells (L.map (Value.int .u8)).toArray e)) = .ok (.value (.slice (some ⟨W.heap.size, 0, none⟩) L.length L.length)) (W.alloc (.cells (L.map (Value.int .u8)).toArray e ((L.map (Value.int .u8)).toArray.size, (L.map (Value.int .u8)).toArray.size + 1))) := by
    unfold execOp
    simp only [ho2, hev, Sem.run_bind, hcv, Result.andThen_ok, Sem.run_pure]
  refine gate_guard (h2 _) (Kd.event_run (o := { o2 with guard := none }) rfl hrun2 (h _ _ ?_ (below_alloc (Below.refl _ _) _)))
  refine ⟨some ⟨W.heap.size, 0, none⟩, L.length, rfl, Nat.le_refl _, fun W' hW => ?_⟩
  refine Kd.C_of_reads (d := (0 : Int)) ⟨rfl, hm, fun _ => ⟨⟨W.heap.size, 0, none⟩, rfl, fun j hj => ?_⟩⟩
  have hb := hW W.heap.size (Nat.le_refl _) (by simp)
  have hb2 : W'.heap[W.heap.size]? = some (.cells (L.map (Value.int .u8)).toArray e ((L.map (Value.int .u8)).toArray.size, (L.map (Value.int .u8)).toArray.size + 1)) := by rw [hb]; exact heap_alloc_new W _
  rw [add_plain, cell_of_row W' W.heap.size j _ e _ hb2]
  simp [List.getD_eq_getElem?_getD, List.getElem?_eq_getElem hj]
end
-- a cut's length, as the walk spells it
theorem cut_len {α : Type} (l : List α) (a b : Int) (h : decide (b ≤ (l.length : Int)) = true) : b.toNat - a.toNat = ((l.take b.toNat).drop a.toNat).length := by
  have := of_decide_eq_true h
  rw [List.length_drop, List.length_take]
  omega
theorem take_len {α : Type} (l : List α) (b : Int) (h : decide (b ≤ (l.length : Int)) = true) : b.toNat = (l.take b.toNat).length := by
  have := of_decide_eq_true h
  rw [List.length_take]
  omega
theorem drop_len {α : Type} (l : List α) (a : Int) : l.length - a.toNat = (l.drop a.toNat).length := by rw [List.length_drop]
theorem rrow_len {α : Type} {R : α → List Value → Prop} {s m n : Nat} {w : World} {A : Option Addr} {xs : List α} (h : m = n) (hr : ReadsRow R s w A m xs) : ReadsRow R s w A n xs := h ▸ hr
/-! #### a world that has only made more and drawn: what is told of it moves along by itself -/
class Ext (w w1 : World) : Prop where
  h : Below w.heap.size w w1
instance ext_refl (w : World) : Ext w w := ⟨Below.refl _ _⟩
instance ext_alloc (w w1 : World) (o : Obj) [e : Ext w w1] : Ext w (w1.alloc o) := ⟨below_alloc e.h o⟩
instance ext_drewN (w w1 : World) (n : Nat) [e : Ext w w1] : Ext w (w1.drewN n) := ⟨pw_below_drewN e.h n⟩
theorem setCell_drewN (w : World) (n : Nat) (p : Addr) (v : Value) : (w.drewN n).setCell p v = (w.setCell p v).drewN n := rfl
instance ext_set_drewN (w : World) (n : Nat) (p : Addr) (v : Value) : Ext (w.setCell p v) ((w.drewN n).setCell p v) := ⟨pw_below_drewN (Below.refl _ _) n⟩
instance ext_set_drew (w : World) (p : Addr) (v : Value) : Ext (w.setCell p v) (w.drew.setCell p v) := ⟨below_drew (Below.refl _ _)⟩
instance ext_drew (w w1 : World) [e : Ext w w1] : Ext w w1.drew := ⟨below_drew e.h⟩
theorem below_ext {w W W1 : World} (h : Below w.heap.size w W) [e : Ext W W1] : Below w.heap.size w W1 := below_step h e.h
theorem blk_ext {w w1 : World} {g : Nat} {o : Obj} (h : w.heap[g]? = some o) [e : Ext w w1] : w1.heap[g]? = some o := blk_below h e.h
theorem bA {w W : World} (h : Below w.heap.size w W) (o : Obj) : Below w.heap.size w (W.alloc o) := below_alloc h o
theorem bN {B : Nat} {w W : World} (h : Below B w W) (n : Nat) : Below B w (W.drewN n) := pw_below_drewN h n
theorem b1 {base : Nat} {w W : World} (h : Below base w W) : Below base w W.drew := below_drew1 h
theorem if_some {α : Type} {p : Prop} [Decidable p] {a : Option α} {r : α} (h : (if p then a else none) = some r) : p ∧ a = some r := by
  by_cases hp : p
  · rw [if_pos hp] at h; exact ⟨hp, h⟩
  · rw [if_neg hp] at h; cases h
theorem if_none {α : Type} {p : Prop} [Decidable p] {a : Option α} {r : α} (h : (if p then none else a) = some r) : ¬ p ∧ a = some r := by
  by_cases hp : p
  · rw [if_pos hp] at h; cases h
  · rw [if_neg hp] at h; exact ⟨hp, h⟩
theorem bS {w W : World} {g j : Nat} {v : Value} (h : Below w.heap.size w W) (hg : w.heap.size ≤ g) : Below w.heap.size w (W.setCell ⟨g, j, none⟩ v) := below_set h hg
section
variable {α : Type} {d : Kd α} {e base n : Nat} {w w1 : World} {A : Option Addr} {ok : Nat → Prop} {v : Value} {xs : List α}
theorem Kd.R_ext (h : Kd.R d e w base ok v xs) [x : Ext w w1] : Kd.R d e w1 base ok v xs := Kd.R_below h x.h
theorem Kd.N_ext (h : Kd.N d e w base ok v xs) [x : Ext w w1] : Kd.N d e w1 base ok v xs := Kd.N_below h x.h
theorem Kd.V_ext (h : Kd.V d e w base ok v xs) [x : Ext w w1] : Kd.V d e w1 base ok v xs := Kd.V_below h x.h
theorem Kd.S_ext (h : Kd.S d e w base ok v xs) [x : Ext w w1] : Kd.S d e w1 base ok v xs := Kd.S_below h x.h
theorem Kd.Q_ext (h : Kd.Q d e w base ok v xs) [x : Ext w w1] : Kd.Q d e w1 base ok v xs := Kd.Q_below h x.h
theorem Kd.C_ext (h : Kd.C d w A n xs) [x : Ext w w1] : Kd.C d w1 A n xs := Kd.C_below h x.h
end
class GE_ (n g : Nat) : Prop where
  h : n ≤ g
class ExtB (B : Nat) (w w1 : World) : Prop where
  h : B ≤ w.heap.size → Below B w w1
instance extB_refl (B : Nat) (w : World) : ExtB B w w := ⟨fun _ => Below.refl _ _⟩
instance extB_alloc (B : Nat) (w w1 : World) (o : Obj) [e : ExtB B w w1] : ExtB B w (w1.alloc o) := ⟨fun hB => (e.h hB).alloc (Nat.le_trans hB (e.h hB).size) o⟩
instance extB_drewN (B : Nat) (w w1 : World) (n : Nat) [e : ExtB B w w1] : ExtB B w (w1.drewN n) := ⟨fun hB => pw_below_drewN (e.h hB) n⟩
instance extB_drew (B : Nat) (w w1 : World) [e : ExtB B w w1] : ExtB B w w1.drew := ⟨fun hB => below_drew (e.h hB)⟩
instance extB_set (B : Nat) (w w1 : World) (g j : Nat) (v : Value) [x : GE_ B g] [e : ExtB B w w1] : ExtB B w (w1.setCell ⟨g, j, none⟩ v) := ⟨fun hB => (e.h hB).setCell x.h _⟩
theorem below_extB {w W W1 : World} (h : Below w.heap.size w W) [e : ExtB w.heap.size W W1] : Below w.heap.size w W1 := h.trans (e.h h.size)
/-! #### the same, as one step each: what an event leaves as it was -/
section
variable {α : Type} {d : Kd α} {e base n : Nat} {w W w1 : World} {A : Option Addr} {ok : Nat → Prop} {v u u2 u3 : Value} {xs : List α}
theorem mvR (h : Aside0 (Kd.R d e w base ok v xs)) (hb : Below W.heap.size W w1) [x : Ext w W] : Aside0 (Kd.R d e w1 base ok v xs) := ⟨Kd.R_below (Kd.R_ext h.out) hb⟩
theorem awR (h : Aside0 (Kd.R d e w base ok v xs)) (hb : Below W.heap.size W w1) (g : Nat) (hg : g = W.heap.size) [x : Ext w W] : Aside0 (Kd.R d e w1 base (fun k => ok k ∧ k ≠ g) v xs) := ⟨Kd.R_below (Kd.R_elderB (Kd.R_ext h.out) g (Nat.le_of_eq hg.symm)) hb⟩
theorem apR (h : Aside0 (Kd.R d e w base ok v xs)) (hb : Below W.heap.size W w1) (h1 : ∀ k, u.ownBlock = some k → W.heap.size ≤ k) [x : Ext w W] : Aside0 (Kd.R d e w1 base (fun k => ok k ∧ some k ≠ u.ownBlock) v xs) := ⟨Kd.R_elder' (Kd.R_ext h.out) h1 hb⟩
theorem tdR2 (h : Aside0 (Kd.R d e w base ok v xs)) (hb : Below W.heap.size W w1) (h1 : ∀ k, u.ownBlock = some k → W.heap.size ≤ k) (h2 : ∀ k, u2.ownBlock = some k → W.heap.size ≤ k) [x : Ext w W] : Aside0 (Kd.R d e w1 base (fun k => (ok k ∧ some k ≠ u.ownBlock) ∧ some k ≠ u2.ownBlock) v xs) := ⟨Kd.R_mono (Kd.R_told (Kd.R_told (Kd.R_old (Kd.R_ext h.out) hb) h1) h2) (fun _ h_ => h_.1)⟩
theorem tdR3 (h : Aside0 (Kd.R d e w base ok v xs)) (hb : Below W.heap.size W w1) (h1 : ∀ k, u.ownBlock = some k → W.heap.size ≤ k) (h2 : ∀ k, u2.ownBlock = some k → W.heap.size ≤ k) (h3 : ∀ k, u3.ownBlock = some k → W.heap.size ≤ k) [x : Ext w W] : Aside0 (Kd.R d e w1 base (fun k => ((ok k ∧ some k ≠ u.ownBlock) ∧ some k ≠ u2.ownBlock) ∧ some k ≠ u3.ownBlock) v xs) := ⟨Kd.R_mono (Kd.R_told (Kd.R_told (Kd.R_told (Kd.R_old (Kd.R_ext h.out) hb) h1) h2) h3) (fun _ h_ => h_.1)⟩
theorem mvN (h : Aside0 (Kd.N d e w base ok v xs)) (hb : Below W.heap.size W w1) [x : Ext w W] : Aside0 (Kd.N d e w1 base ok v xs) := ⟨Kd.N_below (Kd.N_ext h.out) hb⟩
theorem awN (h : Aside0 (Kd.N d e w base ok v xs)) (hb : Below W.heap.size W w1) (g : Nat) (hg : g = W.heap.size) [x : Ext w W] : Aside0 (Kd.N d e w1 base (fun k => ok k ∧ k ≠ g) v xs) := ⟨Kd.N_below (Kd.N_elderB (Kd.N_ext h.out) g (Nat.le_of_eq hg.symm)) hb⟩
theorem apN (h : Aside0 (Kd.N d e w base ok v xs)) (hb : Below W.heap.size W w1) (h1 : ∀ k, u.ownBlock = some k → W.heap.size ≤ k) [x : Ext w W] : Aside0 (Kd.N d e w1 base (fun k => ok k ∧ some k ≠ u.ownBlock) v xs) := ⟨Kd.N_elder' (Kd.N_ext h.out) h1 hb⟩
theorem tdN2 (h : Aside0 (Kd.N d e w base ok v xs)) (hb : Below W.heap.size W w1) (h1 : ∀ k, u.ownBlock = some k → W.heap.size ≤ k) (h2 : ∀ k, u2.ownBlock = some k → W.heap.size ≤ k) [x : Ext w W] : Aside0 (Kd.N d e w1 base (fun k => (ok k ∧ some k ≠ u.ownBlock) ∧ some k ≠ u2.ownBlock) v xs) := ⟨Kd.N_mono (Kd.N_told (Kd.N_told (Kd.N_old (Kd.N_ext h.out) hb) h1) h2) (fun _ h_ => h_.1)⟩
theorem tdN3 (h : Aside0 (Kd.N d e w base ok v xs)) (hb : Below W.heap.size W w1) (h1 : ∀ k, u.ownBlock = some k → W.heap.size ≤ k) (h2 : ∀ k, u2.ownBlock = some k → W.heap.size ≤ k) (h3 : ∀ k, u3.ownBlock = some k → W.heap.size ≤ k) [x : Ext w W] : Aside0 (Kd.N d e w1 base (fun k => ((ok k ∧ some k ≠ u.ownBlock) ∧ some k ≠ u2.ownBlock) ∧ some k ≠ u3.ownBlock) v xs) := ⟨Kd.N_mono (Kd.N_told (Kd.N_told (Kd.N_told (Kd.N_old (Kd.N_ext h.out) hb) h1) h2) h3) (fun _ h_ => h_.1)⟩
theorem mvV (h : Aside0 (Kd.V d e w base ok v xs)) (hb : Below W.heap.size W w1) [x : Ext w W] : Aside0 (Kd.V d e w1 base ok v xs) := ⟨Kd.V_below (Kd.V_ext h.out) hb⟩
theorem awV (h : Aside0 (Kd.V d e w base ok v xs)) (hb : Below W.heap.size W w1) (g : Nat) (hg : g = W.heap.size) [x : Ext w W] : Aside0 (Kd.V d e w1 base (fun k => ok k ∧ k ≠ g) v xs) := ⟨Kd.V_below (Kd.V_elderB (Kd.V_ext h.out) g (Nat.le_of_eq hg.symm)) hb⟩
theorem apV (h : Aside0 (Kd.V d e w base ok v xs)) (hb : Below W.heap.size W w1) (h1 : ∀ k, u.ownBlock = some k → W.heap.size ≤ k) [x : Ext w W] : Aside0 (Kd.V d e w1 base (fun k => ok k ∧ some k ≠ u.ownBlock) v xs) := ⟨Kd.V_elder' (Kd.V_ext h.out) h1 hb⟩
theorem tdV2 (h : Aside0 (Kd.V d e w base ok v xs)) (hb : Below W.heap.size W w1) (h1 : ∀ k, u.ownBlock = some k → W.heap.size ≤ k) (h2 : ∀ k, u2.ownBlock = some k → W.heap.size ≤ k) [x : Ext w W] : Aside0 (Kd.V d e w1 base (fun k => (ok k ∧ some k ≠ u.ownBlock) ∧ some k ≠ u2.ownBlock) v xs) := ⟨Kd.V_mono (Kd.V_told (Kd.V_told (Kd.V_old (Kd.V_ext h.out) hb) h1) h2) (fun _ h_ => h_.1)⟩
theorem tdV3 (h : Aside0 (Kd.V d e w base ok v xs)) (hb : Below W.heap.size W w1) (h1 : ∀ k, u.ownBlock = some k → W.heap.size ≤ k) (h2 : ∀ k, u2.ownBlock = some k → W.heap.size ≤ k) (h3 : ∀ k, u3.ownBlock = some k → W.heap.size ≤ k) [x : Ext w W] : Aside0 (Kd.V d e w1 base (fun k => ((ok k ∧ some k ≠ u.ownBlock) ∧ some k ≠ u2.ownBlock) ∧ some k ≠ u3.ownBlock) v xs) := ⟨Kd.V_mono (Kd.V_told (Kd.V_told (Kd.V_told (Kd.V_old (Kd.V_ext h.out) hb) h1) h2) h3) (fun _ h_ => h_.1)⟩
theorem mvS (h : Aside0 (Kd.S d e w base ok v xs)) (hb : Below W.heap.size W w1) [x : Ext w W] : Aside0 (Kd.S d e w1 base ok v xs) := ⟨Kd.S_below (Kd.S_ext h.out) hb⟩
theorem awS (h : Aside0 (Kd.S d e w base ok v xs)) (hb : Below W.heap.size W w1) (g : Nat) (hg : g = W.heap.size) [x : Ext w W] : Aside0 (Kd.S d e w1 base (fun k => ok k ∧ k ≠ g) v xs) := ⟨Kd.S_below (Kd.S_elderB (Kd.S_ext h.out) g (Nat.le_of_eq hg.symm)) hb⟩
theorem apS (h : Aside0 (Kd.S d e w base ok v xs)) (hb : Below W.heap.size W w1) (h1 : ∀ k, u.ownBlock = some k → W.heap.size ≤ k) [x : Ext w W] : Aside0 (Kd.S d e w1 base (fun k => ok k ∧ some k ≠ u.ownBlock) v xs) := ⟨Kd.S_elder' (Kd.S_ext h.out) h1 hb⟩
theorem tdS2 (h : Aside0 (Kd.S d e w base ok v xs)) (hb : Below W.heap.size W w1) (h1 : ∀ k, u.ownBlock = some k → W.heap.size ≤ k) (h2 : ∀ k, u2.ownBlock = some k → W.heap.size ≤ k) [x : Ext w W] : Aside0 (Kd.S d e w1 base (fun k => (ok k ∧ some k ≠ u.ownBlock) ∧ some k ≠ u2.ownBlock) v xs) := ⟨Kd.S_mono (Kd.S_told (Kd.S_told (Kd.S_old (Kd.S_ext h.out) hb) h1) h2) (fun _ h_ => h_.1)⟩
theorem tdS3 (h : Aside0 (Kd.S d e w base ok v xs)) (hb : Below W.heap.size W w1) (h1 : ∀ k, u.ownBlock = some k → W.heap.size ≤ k) (h2 : ∀ k, u2.ownBlock = some k → W.heap.size ≤ k) (h3 : ∀ k, u3.ownBlock = some k → W.heap.size ≤ k) [x : Ext w W] : Aside0 (Kd.S d e w1 base (fun k => ((ok k ∧ some k ≠ u.ownBlock) ∧ some k ≠ u2.ownBlock) ∧ some k ≠ u3.ownBlock) v xs) := ⟨Kd.S_mono (Kd.S_told (Kd.S_told (Kd.S_told (Kd.S_old (Kd.S_ext h.out) hb) h1) h2) h3) (fun _ h_ => h_.1)⟩
theorem mvQ (h : Aside0 (Kd.Q d e w base ok v xs)) (hb : Below W.heap.size W w1) [x : Ext w W] : Aside0 (Kd.Q d e w1 base ok v xs) := ⟨Kd.Q_below (Kd.Q_ext h.out) hb⟩
theorem awQ (h : Aside0 (Kd.Q d e w base ok v xs)) (hb : Below W.heap.size W w1) (g : Nat) (hg : g = W.heap.size) [x : Ext w W] : Aside0 (Kd.Q d e w1 base (fun k => ok k ∧ k ≠ g) v xs) := ⟨Kd.Q_below (Kd.Q_elderB (Kd.Q_ext h.out) g (Nat.le_of_eq hg.symm)) hb⟩
theorem apQ (h : Aside0 (Kd.Q d e w base ok v xs)) (hb : Below W.heap.size W w1) (h1 : ∀ k, u.ownBlock = some k → W.heap.size ≤ k) [x : Ext w W] : Aside0 (Kd.Q d e w1 base (fun k => ok k ∧ some k ≠ u.ownBlock) v xs) := ⟨Kd.Q_elder' (Kd.Q_ext h.out) h1 hb⟩
theorem tdQ2 (h : Aside0 (Kd.Q d e w base ok v xs)) (hb : Below W.heap.size W w1) (h1 : ∀ k, u.ownBlock = some k → W.heap.size ≤ k) (h2 : ∀ k, u2.ownBlock = some k → W.heap.size ≤ k) [x : Ext w W] : Aside0 (Kd.Q d e w1 base (fun k => (ok k ∧ some k ≠ u.ownBlock) ∧ some k ≠ u2.ownBlock) v xs) := ⟨Kd.Q_mono (Kd.Q_told (Kd.Q_told (Kd.Q_old (Kd.Q_ext h.out) hb) h1) h2) (fun _ h_ => h_.1)⟩
theorem tdQ3 (h : Aside0 (Kd.Q d e w base ok v xs)) (hb : Below W.heap.size W w1) (h1 : ∀ k, u.ownBlock = some k → W.heap.size ≤ k) (h2 : ∀ k, u2.ownBlock = some k → W.heap.size ≤ k) (h3 : ∀ k, u3.ownBlock = some k → W.heap.size ≤ k) [x : Ext w W] : Aside0 (Kd.Q d e w1 base (fun k => ((ok k ∧ some k ≠ u.ownBlock) ∧ some k ≠ u2.ownBlock) ∧ some k ≠ u3.ownBlock) v xs) := ⟨Kd.Q_mono (Kd.Q_told (Kd.Q_told (Kd.Q_told (Kd.Q_old (Kd.Q_ext h.out) hb) h1) h2) h3) (fun _ h_ => h_.1)⟩
theorem mvC (h : Aside0 (Kd.C d w A n xs)) (hb : Below W.heap.size W w1) [x : Ext w W] : Aside0 (Kd.C d w1 A n xs) := ⟨Kd.C_below (Kd.C_ext h.out) hb⟩
end
theorem mvB {w W w1 : World} {g : Nat} {o : Obj} (h : Aside0 (w.heap[g]? = some o)) (hb : Below W.heap.size W w1) [x : Ext w W] : Aside0 (w1.heap[g]? = some o) := ⟨blk_below (blk_ext h.out) hb⟩
theorem mvH {w W0 W w1 : World} (h : Aside0 (Below w.heap.size w W0)) (hb : Below W.heap.size W w1) [x : ExtB w.heap.size W0 W] : Aside0 (Below w.heap.size w w1) := ⟨below_step (below_extB h.out) hb⟩
class NE_ (a b : Nat) : Prop where
  h : a ≠ b
class ExtC (g : Nat) (w w1 : World) : Prop where
  h : ∀ o : Obj, w.heap[g]? = some o → w1.heap[g]? = some o
instance extC_refl (g : Nat) (w : World) : ExtC g w w := ⟨fun _ h => h⟩
instance extC_alloc (g : Nat) (w w1 : World) (o : Obj) [e : ExtC g w w1] : ExtC g w (w1.alloc o) := ⟨fun _ h => blk_alloc (e.h _ h) o⟩
instance extC_drewN (g : Nat) (w w1 : World) (n : Nat) [e : ExtC g w w1] : ExtC g w (w1.drewN n) := ⟨fun _ h => e.h _ h⟩
instance extC_drew (g : Nat) (w w1 : World) [e : ExtC g w w1] : ExtC g w w1.drew := ⟨fun _ h => e.h _ h⟩
instance extC_set (g g' j : Nat) (w w1 : World) (v : Value) [x : NE_ g g'] [e : ExtC g w w1] : ExtC g w (w1.setCell ⟨g', j, none⟩ v) := ⟨fun _ h => (Below.heap_setCell w1 _ v g x.h).trans (e.h _ h)⟩
theorem blk_extC {w w1 : World} {g : Nat} {o : Obj} (h : w.heap[g]? = some o) [e : ExtC g w w1] : w1.heap[g]? = some o := e.h _ h
-- a scope with one label to which the run jumps back, as a loop from the label on: the rounds bear a number
section
variable {P : Program} {rest : Code} {l : Nat} {Q : Exit → Act → World → Prop} {a : Act} {w : World}
def jumpR (P : Program) (rest : Code) (l : Nat) (Q : Exit → Act → World → Prop) : Nat → Act → World → Prop
  | 0, _, _ => False
  | n + 1, a, w => rest.wp P (Exit.jump l (jumpR P rest l Q n) Q) a w
theorem jump_mono {J J' : Act → World → Prop} (h : ∀ a w, J a w → J' a w) : ∀ e a w, Exit.jump l J Q e a w → Exit.jump l J' Q e a w := by
  intro e a w q
  cases e with
  | goto l' => exact ⟨q.1, h _ _ q.2⟩
  | normal => exact q
  | exit id => exact q
  | ret => exact q
  | panic ch => exact q
  | outgrown => exact q
theorem jumpR_succ : ∀ (n : Nat) (a : Act) (w : World), jumpR P rest l Q n a w → jumpR P rest l Q (n + 1) a w
  | 0, _, _, h => h.elim
  | n + 1, _, _, h => wp_mono h (jump_mono (fun a w q => jumpR_succ n a w q))
theorem jumpR_le {n m : Nat} (hnm : n ≤ m) {a : Act} {w : World} (h : jumpR P rest l Q n a w) : jumpR P rest l Q m a w := by
  induction hnm with
  | refl => exact h
  | step _ ih => exact jumpR_succ _ _ _ ih
theorem wp_scope_label {c : Code} (l : Nat) (hf : findLabel c l = some rest) (first : ∀ J : Act → World → Prop, (∀ n a w, jumpR P rest l Q n a w → J a w) → c.wp P (Exit.jump l J Q) a w) : (Code.scope c).wp P Q a w := by
  refine wp_scope_jumps l (fun a w => ∃ n, jumpR P rest l Q n a w) (fun a w => leastOf (fun n => jumpR P rest l Q n a w)) hf (first _ (fun n a w h => ⟨n, h⟩)) ?_
  intro a w hJ
  obtain ⟨h1, h2⟩ := leastOf_spec hJ
  generalize hn : leastOf (fun n => jumpR P rest l Q n a w) = n at h1 h2 ⊢
  cases n with
  | zero => exact h1.elim
  | succ n => exact wp_mono h1 (jump_mono (fun a' w' q => ⟨⟨n, q⟩, Nat.lt_succ_of_le ((leastOf_spec (p := fun n => jumpR P rest l Q n a' w') ⟨n, q⟩).2 n q)⟩))
theorem wp_label_loop (l : Nat) {J : Act → World → Prop} (hJ : ∀ n a w, jumpR P (Code.skip.seq rest) l Q n a w → J a w) (I : Act → Nat → Act → World → Prop) (n₀ : Nat) (h₀ : I a n₀ a w)
    (round : ∀ n a' w', I a n a' w' → ∀ (J' : Nat → Act → World → Prop) (K : Act → World → Prop), (∀ k a' w', I a k a' w' → J' k a' w') → (∀ a' w', Handed J' n a' w' → K a' w') → rest.wp P (Exit.jump l K Q) a' w') : rest.wp P (Exit.jump l J Q) a w := by
  have key : ∀ n a' w', I a n a' w' → rest.wp P (Exit.jump l (jumpR P (Code.skip.seq rest) l Q n) Q) a' w' := by
    intro n
    induction n using Nat.strongRecOn with
    | _ n ih =>
      intro a' w' h
      refine round n a' w' h (I a) (jumpR P (Code.skip.seq rest) l Q n) (fun _ _ _ q => q) ?_
      rintro a2 w2 ⟨m, hm, q⟩
      exact jumpR_le hm (show jumpR P (Code.skip.seq rest) l Q (m + 1) a2 w2 from wp_seq (wp_skip (ih m hm a2 w2 q)))
  exact wp_mono (key n₀ a w h₀) (jump_mono (fun a' w' q => hJ _ _ _ q))
end

-- what library functions ask of package variables
structure GL (w : World) : Prop where
  maxLen : ∃ m, w.cell? ⟨0, 0, none⟩ = some (.int .i64 m)
  tab : Lib.TabIs Tryd.prog w "internal/strconv.uint64pow10" .u64 Lib.pow10Tab
  syn : ∃ ev, w.cell? ⟨2, 0, none⟩ = some ev ∧ (ev = .nilIface ∨ ∃ te pe, ev = .iface te pe)
  ran : ∃ ev, w.cell? ⟨3, 0, none⟩ = some ev ∧ (ev = .nilIface ∨ ∃ te pe, ev = .iface te pe)
theorem GL.tabNo : ∃ g, Tryd.prog.globalNamed "internal/strconv.uint64pow10" = some g := Option.isSome_iff_exists.mp (by kernel_rfl)
theorem GL.below {w W : World} (h : GL w) (hb : Below w.heap.size w W) : GL W := by
  obtain ⟨m, hm⟩ := h.maxLen
  obtain ⟨e1, h1, i1⟩ := h.syn
  obtain ⟨e2, h2, i2⟩ := h.ran
  obtain ⟨g, hg⟩ := GL.tabNo
  exact ⟨⟨m, hb.cell (World.block_lt_of_cell? _ _ hm) |>.trans hm⟩, Go.Joins.tab_stays hg h.tab hb (Nat.le_refl _), ⟨e1, hb.cell (World.block_lt_of_cell? _ _ h1) |>.trans h1, i1⟩, ⟨e2, hb.cell (World.block_lt_of_cell? _ _ h2) |>.trans h2, i2⟩⟩
theorem reads_str {w : World} {A : Option Addr} {n : Nat} {xs : List ByteArray} (h : Kd.C Kd.string w A n xs) (hn : 0 < n) :
    ∃ b o, A = some ⟨b, o, none⟩ ∧ b < w.heap.size ∧ ∀ (j : Nat) x, xs[j]? = some x → w.cell? ⟨b, o + j, none⟩ = some (.string x) := by
  obtain ⟨hl, _, hc⟩ := Kd.reads_of_C (d := ByteArray.empty) h
  obtain ⟨ad, rfl, hc2⟩ := hc hn
  have h0 := hc2 0 hn
  obtain ⟨b, o, sp⟩ := ad
  have e0 : (⟨b, o, sp⟩ : Addr).add 0 = ⟨b, o, sp⟩ := rfl
  rw [e0] at h0
  have hsp : sp = none := by
    cases sp with
    | none => rfl
    | some s =>
      simp only [World.cell?] at h0
      split at h0 <;> simp at h0
  subst hsp
  refine ⟨b, o, rfl, World.block_lt_of_cell? _ _ h0, fun j x hx => ?_⟩
  have hj : j < n := by
    rw [← hl]
    exact (List.getElem?_eq_some_iff.1 hx).1
  have := hc2 j hj
  rw [List.getD_eq_getElem?_getD, hx] at this
  have e1 : (⟨b, o, none⟩ : Addr).add j = ⟨b, o + j, none⟩ := by
    unfold Addr.add
    split
    · next hz => subst hz; rfl
    · rfl
  rw [e1] at this
  exact this
-- strings' order, as the print tells it
theorem bytesLess_leq : ∀ x y : List UInt8, (Op.bytesLess x y || x == y) = !(Op.bytesLess y x)
  | [], [] => rfl
  | [], _ :: _ => rfl
  | _ :: _, [] => rfl
  | a :: x, b :: y => by
    have ih := bytesLess_leq x y
    simp only [Op.bytesLess, List.cons_beq_cons]
    rcases Nat.lt_trichotomy a.toNat b.toNat with h | h | h
    · have h1 : a < b := UInt8.lt_iff_toNat_lt.mpr h
      have h2 : ¬ b < a := fun h3 => by have := UInt8.lt_iff_toNat_lt.mp h3; omega
      have h3 : (a == b) = false := beq_eq_false_iff_ne.mpr (fun e => by rw [e] at h; omega)
      have h4 : (b == a) = false := beq_eq_false_iff_ne.mpr (fun e => by rw [e] at h; omega)
      simp [h1, h2, h3, h4]
    · obtain rfl := UInt8.toNat_inj.mp h
      have h2 : ¬ a < a := fun h3 => by have := UInt8.lt_iff_toNat_lt.mp h3; omega
      simp only [decide_eq_false h2, beq_self_eq_true, Bool.false_or, Bool.true_and]
      exact ih
    · have h1 : b < a := UInt8.lt_iff_toNat_lt.mpr h
      have h2 : ¬ a < b := fun h3 => by have := UInt8.lt_iff_toNat_lt.mp h3; omega
      have h3 : (a == b) = false := beq_eq_false_iff_ne.mpr (fun e => by rw [e] at h; omega)
      simp [h1, h2, h3]
theorem str_leq (t : TypeId) (a b : ByteArray) : binOp .leq t (.string a) (.string b) = pure (.bool !(Op.bytesLess b.toList a.toList)) := by
  rw [← bytesLess_leq]
  simp [binOp, Op.stringOp]
theorem str_geq (t : TypeId) (a b : ByteArray) : binOp .geq t (.string a) (.string b) = pure (.bool !(Op.bytesLess a.toList b.toList)) := by simp [binOp, Op.stringOp]
theorem str_gtr (t : TypeId) (a b : ByteArray) : binOp .gtr t (.string a) (.string b) = pure (.bool (Op.bytesLess b.toList a.toList)) := by
  have := bytesLess_leq a.toList b.toList
  simp [binOp, Op.stringOp, this]
/-! #### short names for what a print says often: a goal that one and the same run of steps closes -/
theorem goA {p : Prop} (h : p := by (try simp only [List.map_toArray, List.map_cons, List.map_nil]); first | done | rfl | (simp only [List.length_drop, List.length_take]; rfl) | (simp only [i64_w]; done) | (simp (disch := decide) only [Int.tdiv_eq_ediv_of_nonneg]; rfl)) : p := h
theorem goB {p : Prop} (h : p := by (try simp only [List.map_toArray, List.map_cons, List.map_nil]); first | done | rfl | (simp only [List.length_drop, List.length_take]; rfl)) : p := h
theorem odt {p : Prop} [Decidable p] (h : decide p = true := by first | (with_reducible assumption) | assumption) : p := of_decide_eq_true h
theorem rls {p : Prop} (h : p := by first | rfl | (simp; done) | (simp [*]; done)) : p := h
theorem goR {p : Prop} (h : p := by first | (go_simp; done) | (go_simp; rfl)) : p := h
section
variable {P : Program} {ops : Array Oper} {Q : Exit → Act → World → Prop} {md : Region.Mode} {S : World → Prop} {ds : List Nat} {T : Bool × List (List Nat × List Nat)} {l l' : Array Bool} {a a' : Act} {w : World} {fuel : Nat} {oi : Oper} {v : Value}
theorem purE (i : Nat) (N : Option Tmp) (hT : Aside0 (rtab md ops = T)) (h : wpAnyLast P md ops Q S ds fuel l' a' w) (hi : ops[i]? = some oi := by rfl) (hN : oi.dst = N := by rfl)
    (hl : l.setIfInBounds i true = l' := by (simp only [List.setIfInBounds_toArray, List.set_cons_zero, List.set_cons_succ]; rfl)) (hc : anyT T l.toList l'.toList i = true := by kernel_rfl) (hg : Region.wanted oi (yielded ops a.tmps) = true := by rfl)
    (hy : ∀ w, (execOp a.eval oi).run P w = .ok (.value v) w := by (intro w'; go_simp; with_reducible rfl)) (ha : a.put N v = a' := by (simp only [Act.put, List.setIfInBounds_toArray, List.set_cons_zero, List.set_cons_succ, i64_w, i32_w]; rfl))
    (hQ : ∀ c a w, Q (.panic c) (a.put oi.dst v) w → Q (.panic c) a w := by exact fun _ _ _ h => h) : wpAnyLast P md ops Q S ds (fuel + 1) l a w :=
  pure_ (i := i) (N := N) l' hi hN (any_of hT.out hc) hQ (Or.inl ⟨hg, hy⟩) ha h
theorem purU (i : Nat) (N : Option Tmp) (hT : Aside0 (rtab md ops = T)) (h : wpAnyLast P md ops Q S ds fuel l' a' w) (hi : ops[i]? = some oi := by rfl) (hN : oi.dst = N := by rfl)
    (hl : l.setIfInBounds i true = l' := by (simp only [List.setIfInBounds_toArray, List.set_cons_zero, List.set_cons_succ]; rfl)) (hc : anyT T l.toList l'.toList i = true := by kernel_rfl) (hg : Region.wanted oi (yielded ops a.tmps) = false := by rfl)
    (ha : a.put N undef = a' := by (simp only [Act.put, List.setIfInBounds_toArray, List.set_cons_zero, List.set_cons_succ, i64_w, i32_w]; rfl))
    (hQ : ∀ c a w, Q (.panic c) (a.put oi.dst undef) w → Q (.panic c) a w := by exact fun _ _ _ h => h) : wpAnyLast P md ops Q S ds (fuel + 1) l a w :=
  pure_ (i := i) (N := N) l' hi hN (any_of hT.out hc) hQ (Or.inr ⟨hg, rfl⟩) ha h
theorem tkE {B : List Nat} (i : Nat) (N : Option Tmp) (hT : Aside0 (rtab md ops = T)) (hB : Aside0 (waitsOk T.2 B = true)) (hS : S w) (h : wpAnyLast P md ops Q S ds fuel l' a' w) (hi : ops[i]? = some oi := by rfl) (hN : oi.dst = N := by rfl)
    (hl : l.setIfInBounds i true = l' := by (simp only [List.setIfInBounds_toArray, List.set_cons_zero, List.set_cons_succ]; rfl)) (hc : takeW T B ds l.toList l'.toList i = true := by kernel_rfl) (hg : Region.wanted oi (yielded ops a.tmps) = true := by rfl) (hy : ∀ w, S w → (execOp a.eval oi).run P w = .ok (.value v) w)
    (ha : a.put N v = a' := by (simp only [Act.put, List.setIfInBounds_toArray, List.set_cons_zero, List.set_cons_succ, i64_w, i32_w]; rfl))
    (hQ : ∀ c a w, Q (.panic c) (a.put oi.dst v) w → Q (.panic c) a w := by exact fun _ _ _ h => h) : wpAnyLast P md ops Q S ds (fuel + 1) l a w :=
  take_ (i := i) (N := N) l' hi hN (take_ofW hT.out hB.out hc) hQ (Or.inl ⟨hg, hy⟩) hS ha h
theorem oneE (i : Nat) (N : Option Tmp) (hT : Aside0 (rtab md ops = T)) (h : ∀ K : Act → World → Prop, Shut (∀ a' w', S w' → (S w' → wpAnyLast P md ops Q S ds fuel l' a' w') → K a' w') → if Region.wanted oi (yielded ops a.tmps) = true then Oper.wp P oi a w K Q else K (a.put N undef) w)
    (hi : ops[i]? = some oi := by rfl) (hN : oi.dst = N := by rfl) (hl : l.setIfInBounds i true = l' := by (simp only [List.setIfInBounds_toArray, List.set_cons_zero, List.set_cons_succ]; rfl)) (hc : (readyT T.2 l.toList == [i] && l.toList.set i true == l'.toList) = true := by kernel_rfl) (hd : i ∉ ds := by decide) : wpAnyLast P md ops Q S ds (fuel + 1) l a w :=
  one_ (i := i) (N := N) l' hi hN (one_of hT.out hc) hd h
theorem nrmE (N : Option Tmp) (h : wpAnyLast P md ops Q S ds fuel l a' w) (ha : a.put N v = a' := by (simp only [Act.put, List.setIfInBounds_toArray, List.set_cons_zero, List.set_cons_succ, i64_w, i32_w]; rfl)) : wpAnyLast P md ops Q S ds fuel l (a.put N v) w := norm_ ha h
end
theorem bc {w : World} {g : Nat} {cs : Array Value} {t : TypeId} {v : Value} (h : Aside0 (w.heap[g]? = some (.cells cs t (0, 0)))) (i : Nat) (hv : cs[i]? = some v := by rfl) : w.cell? ⟨g, i, none⟩ = some v := (blk_cell h.out i).trans hv
theorem gwB {w W W1 : World} {g : Nat} (hg : g = W1.heap.size) (h : Aside0 (Below w.heap.size w W)) [e : ExtB w.heap.size W W1] : Aside0 (w.heap.size ≤ g) := ⟨by rw [hg]; exact below_size (below_extB h.out)⟩
theorem gwE {w W W1 : World} {g : Nat} (hg : g = W1.heap.size) (h : Aside0 (Below w.heap.size w W)) [e : Ext W W1] : Aside0 (w.heap.size ≤ g) := ⟨by rw [hg]; exact below_size (below_ext h.out)⟩
theorem nbL {W W1 : World} {g b : Nat} {o : Obj} (hg : g = W1.heap.size) (h : Aside0 (W.heap[b]? = some o)) [e : Ext W W1] : Aside0 (b ≠ g) := ⟨by rw [hg]; exact Nat.ne_of_lt (blk_lt (blk_ext h.out))⟩
theorem nbR {W W1 : World} {g b : Nat} {o : Obj} (hg : g = W1.heap.size) (h : Aside0 (W.heap[b]? = some o)) [e : Ext W W1] : Aside0 (g ≠ b) := ⟨by rw [hg]; exact Nat.ne_of_gt (blk_lt (blk_ext h.out))⟩
theorem hbS {w W W1 W2 : World} (hw : W2 = W1) (h : Aside0 (Below w.heap.size w W)) [e : ExtB w.heap.size W W1] : Aside0 (Below w.heap.size w W2) := ⟨by rw [hw]; exact below_extB h.out⟩
theorem bkS {W W1 W2 : World} {g : Nat} {o : Obj} (hw : W2 = W1) (h : Aside0 (W.heap[g]? = some o)) [e : ExtC g W W1] : Aside0 (W2.heap[g]? = some o) := ⟨by rw [hw]; exact blk_extC h.out⟩
section
variable {w : World} {g : Nat} {t : TypeId} {v0 v1 v2 v3 v4 v5 v6 v7 : Value}
theorem bk1 (h : w.heap[g]? = some (.cells #[v0] t (0, 0))) : w.cell? ⟨g, 0, none⟩ = some v0 ∧ w.frozen? ⟨g, 0, none⟩ = false := ⟨(blk_cell h 0).trans rfl, blk_frozen h 0⟩
theorem bk2 (h : w.heap[g]? = some (.cells #[v0, v1] t (0, 0))) : w.cell? ⟨g, 0, none⟩ = some v0 ∧ w.cell? ⟨g, 1, none⟩ = some v1 ∧ w.frozen? ⟨g, 0, none⟩ = false ∧ w.frozen? ⟨g, 1, none⟩ = false := ⟨(blk_cell h 0).trans rfl, (blk_cell h 1).trans rfl, blk_frozen h 0, blk_frozen h 1⟩
theorem bk3 (h : w.heap[g]? = some (.cells #[v0, v1, v2] t (0, 0))) : w.cell? ⟨g, 0, none⟩ = some v0 ∧ w.cell? ⟨g, 1, none⟩ = some v1 ∧ w.cell? ⟨g, 2, none⟩ = some v2 ∧ w.frozen? ⟨g, 0, none⟩ = false ∧ w.frozen? ⟨g, 1, none⟩ = false ∧ w.frozen? ⟨g, 2, none⟩ = false := ⟨(blk_cell h 0).trans rfl, (blk_cell h 1).trans rfl, (blk_cell h 2).trans rfl, blk_frozen h 0, blk_frozen h 1, blk_frozen h 2⟩
theorem bk4 (h : w.heap[g]? = some (.cells #[v0, v1, v2, v3] t (0, 0))) : w.cell? ⟨g, 0, none⟩ = some v0 ∧ w.cell? ⟨g, 1, none⟩ = some v1 ∧ w.cell? ⟨g, 2, none⟩ = some v2 ∧ w.cell? ⟨g, 3, none⟩ = some v3 ∧ w.frozen? ⟨g, 0, none⟩ = false ∧ w.frozen? ⟨g, 1, none⟩ = false ∧ w.frozen? ⟨g, 2, none⟩ = false ∧ w.frozen? ⟨g, 3, none⟩ = false := ⟨(blk_cell h 0).trans rfl, (blk_cell h 1).trans rfl, (blk_cell h 2).trans rfl, (blk_cell h 3).trans rfl, blk_frozen h 0, blk_frozen h 1, blk_frozen h 2, blk_frozen h 3⟩
theorem bk5 (h : w.heap[g]? = some (.cells #[v0, v1, v2, v3, v4] t (0, 0))) : w.cell? ⟨g, 0, none⟩ = some v0 ∧ w.cell? ⟨g, 1, none⟩ = some v1 ∧ w.cell? ⟨g, 2, none⟩ = some v2 ∧ w.cell? ⟨g, 3, none⟩ = some v3 ∧ w.cell? ⟨g, 4, none⟩ = some v4 ∧ w.frozen? ⟨g, 0, none⟩ = false ∧ w.frozen? ⟨g, 1, none⟩ = false ∧ w.frozen? ⟨g, 2, none⟩ = false ∧ w.frozen? ⟨g, 3, none⟩ = false ∧ w.frozen? ⟨g, 4, none⟩ = false := ⟨(blk_cell h 0).trans rfl, (blk_cell h 1).trans rfl, (blk_cell h 2).trans rfl, (blk_cell h 3).trans rfl, (blk_cell h 4).trans rfl, blk_frozen h 0, blk_frozen h 1, blk_frozen h 2, blk_frozen h 3, blk_frozen h 4⟩
end

end Go.Proofs.YtoolggpfgadjlaaDoor.Z
