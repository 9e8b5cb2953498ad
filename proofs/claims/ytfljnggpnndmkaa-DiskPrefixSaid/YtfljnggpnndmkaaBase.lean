/- Plain facts: bytes, checksums, frames in line. Conditions: those each theorem states. -/
import Derived.Test.YtfljnggpnndmkaaZ0
import Derived.Test.YtfljnggpnndmkaaOpn
import Derived.Lib.Bytes
import Derived.Laws.BitsLemmas
namespace Go.Proofs.Ytfljnggpnndmkaa.Pure
open Go.RowKit Go.Proofs.YtfljnggpnndmkaaW.PrintWords Go.Proofs.YtfljnggpnndmkaaW.PrintLast Go.Proofs.YtfljnggpnndmkaaW.PrintMore Go.Proofs.Ytfljnggpnndmkaa.Opening
set_option linter.unusedVariables false
set_option linter.unusedSimpArgs false
theorem wrap64_id (n : Int) (h : -9223372036854775808 ≤ n ∧ n ≤ 9223372036854775807) : wrap64 n = n := by unfold wrap64; omega
theorem bkL_one {α : Type} (l : List α) : bkL (fun _ => 1) l = l.length + 1 := by
  unfold bkL
  induction l with
  | nil => rfl
  | cons x l ih => simp only [List.map_cons, List.sum_cons, List.length_cons] at *; omega
def IsBytes (l : List Int) : Prop := ∀ x ∈ l, 0 ≤ x ∧ x < 256
theorem isBytes_of {l : List Int} (h : ∀ x ∈ l, (Lit.int .u8 x).wf = true) : IsBytes l := by
  intro x hx
  have := h x hx
  simp only [Lit.wf, Bool.and_eq_true, decide_eq_true_eq] at this
  have e1 : IntKind.min .u8 = 0 := by decide
  have e2 : IntKind.max .u8 = 255 := by decide
  omega
theorem i64_of {a : Int} (h : (Lit.int .i64 a).wf = true) : -9223372036854775808 ≤ a ∧ a ≤ 9223372036854775807 := by
  simp only [Lit.wf, Bool.and_eq_true, decide_eq_true_eq] at h
  have e1 : IntKind.min .i64 = -9223372036854775808 := by decide
  have e2 : IntKind.max .i64 = 9223372036854775807 := by decide
  omega
theorem flip_fin : ∀ j : Fin 8, ∀ x : Fin 256, (Go.bits .xor .u8 (x.val : Int) (shl .u8 1 (j.val : Int)) ≠ (x.val : Int)) ∧ Go.bits .xor .u8 (Go.bits .xor .u8 (x.val : Int) (shl .u8 1 (j.val : Int))) (shl .u8 1 (j.val : Int)) = (x.val : Int) ∧
    0 ≤ Go.bits .xor .u8 (x.val : Int) (shl .u8 1 (j.val : Int)) ∧ Go.bits .xor .u8 (x.val : Int) (shl .u8 1 (j.val : Int)) < 256 := by decide +kernel
theorem flip_byte (x j : Int) (h0 : 0 ≤ x) (h1 : x < 256) (h2 : 0 ≤ j) (h3 : j < 8) : Go.bits .xor .u8 x (shl .u8 1 j) ≠ x ∧ Go.bits .xor .u8 (Go.bits .xor .u8 x (shl .u8 1 j)) (shl .u8 1 j) = x ∧
    0 ≤ Go.bits .xor .u8 x (shl .u8 1 j) ∧ Go.bits .xor .u8 x (shl .u8 1 j) < 256 := by
  have := flip_fin ⟨j.toNat, by omega⟩ ⟨x.toNat, by omega⟩
  simp only [Int.toNat_of_nonneg h0, Int.toNat_of_nonneg h2] at this
  exact this
theorem tdiv8 (n : Int) (h : -9223372036854775808 ≤ n ∧ n ≤ 9223372036854775807) : wrap64 (Int.tdiv n 8) = Int.tdiv n 8 := wrap64_id _ (by
  rcases Int.le_total 0 n with h0 | h0
  · rw [Int.tdiv_eq_ediv_of_nonneg h0]; omega
  · have : Int.tdiv n 8 = -(Int.tdiv (-n) 8) := by rw [Int.neg_tdiv]; omega
    rw [this, Int.tdiv_eq_ediv_of_nonneg (by omega)]; omega)
def flipped (a : List Int) (n : Int) : List Int := a.set (Int.tdiv n 8).toNat (Go.bits .xor .u8 (rd a (Int.tdiv n 8)) (shl .u8 1 (Int.tmod n 8)))
def flip2 (a b : List Int) (n : Int) : List Int × List Int := if 0 ≤ n ∧ Int.tdiv n 8 < (a.length : Int) then (flipped a n, b) else (a, b)
theorem rd_set_self (a : List Int) (i v : Int) (h0 : 0 ≤ i) (h1 : i < a.length) : rd (a.set i.toNat v) i = v := by
  simp only [rd]
  rw [List.getD_eq_getElem?_getD, List.getElem?_set_self (by omega)]
  rfl
theorem rd_set_ne (a : List Int) (i j v : Int) (h0 : 0 ≤ i) (h2 : 0 ≤ j) (h : i ≠ j) : rd (a.set i.toNat v) j = rd a j := by
  simp only [rd]
  rw [List.getD_eq_getElem?_getD, List.getElem?_set_ne (by omega), ← List.getD_eq_getElem?_getD]
theorem rd_byte {a : List Int} (h : IsBytes a) (i : Int) (h0 : 0 ≤ i) (h1 : i < a.length) : 0 ≤ rd a i ∧ rd a i < 256 := by
  simp only [rd]
  rw [List.getD_eq_getElem?_getD, List.getElem?_eq_getElem (by omega)]
  exact h _ (List.getElem_mem _)
theorem set_rd (a : List Int) (i : Int) (h0 : 0 ≤ i) (h1 : i < a.length) : a.set i.toNat (rd a i) = a := by
  simp only [rd]
  rw [List.getD_eq_getElem?_getD, List.getElem?_eq_getElem (by omega)]
  exact List.set_getElem_self _
theorem flipped_flipped (a : List Int) (n : Int) (hb : IsBytes a) (h0 : 0 ≤ n) (h1 : Int.tdiv n 8 < (a.length : Int)) : flipped (flipped a n) n = a := by
  have i0 : 0 ≤ Int.tdiv n 8 := Int.tdiv_nonneg h0 (by omega)
  have m0 : 0 ≤ Int.tmod n 8 := Int.tmod_nonneg _ h0
  have m1 : Int.tmod n 8 < 8 := Int.tmod_lt_of_pos n (by omega)
  obtain ⟨r0, r1⟩ := rd_byte hb _ i0 h1
  have := (flip_byte _ _ r0 r1 m0 m1).2.1
  simp only [flipped]
  rw [rd_set_self a _ _ i0 h1, this, List.set_set, set_rd a _ i0 h1]
theorem flipped_bytes (a : List Int) (n : Int) (hb : IsBytes a) (h0 : 0 ≤ n) (h1 : Int.tdiv n 8 < (a.length : Int)) : IsBytes (flipped a n) := by
  have i0 : 0 ≤ Int.tdiv n 8 := Int.tdiv_nonneg h0 (by omega)
  have m0 : 0 ≤ Int.tmod n 8 := Int.tmod_nonneg _ h0
  have m1 : Int.tmod n 8 < 8 := Int.tmod_lt_of_pos n (by omega)
  obtain ⟨r0, r1⟩ := rd_byte hb _ i0 h1
  intro x hx
  rcases List.mem_or_eq_of_mem_set hx with hx | rfl
  · exact hb x hx
  · exact (flip_byte _ _ r0 r1 m0 m1).2.2
def crash2 (a b : List Int) (n : Int) : List Int × List Int := (a ++ b.take (mn (mx n 0) (b.length : Int)).toNat, [])
theorem mnmx (n : Int) (k : Nat) : 0 ≤ mn (mx n 0) (k : Int) ∧ mn (mx n 0) (k : Int) ≤ k := by
  simp only [mn, mx]
  split <;> split <;> omega
def trunc2 (a b : List Int) (n : Int) : List Int × List Int × Int := if n < 0 ∨ n > ((a ++ b).length : Int) then ([], [], 2) else ((a ++ b).take n.toNat, [], 0)
theorem wraps_i64 (n : Int) (h0 : 0 ≤ n) (h1 : n < 2 ^ 62) : IntKind.i64.wrap n = n := by
  rw [IntKind.wrap_i64]
  omega
theorem or16 (x y : Int) (hx : 0 ≤ x) (hx1 : x < 65536) (hy : 0 ≤ y) (hy1 : y < 65536) : Go.bits .or .i64 (y * 65536) x = y * 65536 + x :=
  bits_join .i64 62 (by decide) wraps_i64 16 (y * 65536) x (by omega) (by omega) (by omega) hx (by omega) (by omega)
theorem or8 (x y : Int) (hx : 0 ≤ x) (hx1 : x < 256) (hy : 0 ≤ y) (hy1 : y < 256) : Go.bits .or .i64 (y * 256) x = y * 256 + x :=
  bits_join .i64 62 (by decide) wraps_i64 8 (y * 256) x (by omega) (by omega) (by omega) hx (by omega) (by omega)
theorem ev_pos {α : Type} {c : Prop} [Decidable c] {f g : Nat → Option α} {r : α} (h : c) (hf : Ev f r) : Ev (fun k => if c then f k else g k) r := Ev.congr (fun k => if_pos h) hf
theorem ev_neg {α : Type} {c : Prop} [Decidable c] {f g : Nat → Option α} {r : α} (h : ¬ c) (hf : Ev g r) : Ev (fun k => if c then f k else g k) r := Ev.congr (fun k => if_neg h) hf
theorem ev_some {α β : Type} {a : α} {f : Nat → α → Option β} {r : β} (h : Ev (fun k => f k a) r) : Ev (fun k => (some a).bind (f k)) r := Ev.congr (fun k => rfl) h
theorem ev_now {α : Type} {a : Option α} {r : α} (h : a = some r) : Ev (fun _ => a) r := by subst h; exact Ev.now r
def ckGo : List Int → Int → Int → Int × Int
  | [], x, y => (x, y)
  | b :: l, x, y => ckGo l ((x + b) % 65521) ((y + (x + b) % 65521) % 65521)
def ck (l : List Int) : Int := (ckGo l 1 0).2 * 65536 + (ckGo l 1 0).1
theorem ckGo_range : ∀ (l : List Int) (x y : Int), 0 ≤ x → x < 65521 → 0 ≤ y → y < 65521 → 0 ≤ (ckGo l x y).1 ∧ (ckGo l x y).1 < 65521 ∧ 0 ≤ (ckGo l x y).2 ∧ (ckGo l x y).2 < 65521 := by
  intro l
  induction l with
  | nil => intro x y h0 h1 h2 h3; exact ⟨h0, h1, h2, h3⟩
  | cons b l ih =>
    intro x y h0 h1 h2 h3
    simp only [ckGo]
    exact ih _ _ (by omega) (by omega) (by omega) (by omega)
theorem ck_range (l : List Int) : 0 ≤ ck l ∧ ck l < 4294967296 := by
  have := ckGo_range l 1 0 (by omega) (by omega) (by omega) (by omega)
  unfold ck
  omega
theorem drop_cons (l : List Int) (i : Nat) (h : i < l.length) : l.drop i = rd l (i : Int) :: l.drop (i + 1) := by
  rw [List.drop_eq_getElem_cons h]
  simp [rd, List.getD_eq_getElem?_getD, List.getElem?_eq_getElem h]
def sum4 (n : Int) : List Int := [(n / 16777216) % 256, (n / 65536) % 256, (n / 256) % 256, n % 256]
theorem sum4_bytes (n : Int) : IsBytes (sum4 n) := by
  intro x hx
  simp only [sum4, List.mem_cons, List.not_mem_nil, or_false] at hx
  omega
def head5 (k : Int) (n : Int) : List Int := [n / 256, n % 256, 255 - n / 256, 255 - n % 256, k]
theorem head5_bytes (k n : Int) (hk : k = 1 ∨ k = 2) (h0 : 0 ≤ n) (h1 : n ≤ 60000) : IsBytes (head5 k n) := by
  intro x hx
  simp only [head5, List.mem_cons, List.not_mem_nil, or_false] at hx
  omega
theorem isBytes_append {a b : List Int} (ha : IsBytes a) (hb : IsBytes b) : IsBytes (a ++ b) := by
  intro x hx
  rcases List.mem_append.1 hx with h | h
  · exact ha x h
  · exact hb x h
theorem isBytes_take {a : List Int} (ha : IsBytes a) (n : Nat) : IsBytes (a.take n) := fun x hx => ha x (List.mem_of_mem_take hx)
theorem isBytes_drop {a : List Int} (ha : IsBytes a) (n : Nat) : IsBytes (a.drop n) := fun x hx => ha x (List.mem_of_mem_drop hx)
def enc (k : Int) (p : List Int) : List Int := (head5 k p.length ++ p) ++ sum4 (ck (head5 k p.length ++ p))
def encR (k : Int) (p : List Int) : List Int × Int := if k = 1 ∨ k = 2 then (if p.length > 60000 then ([], 8) else (enc k p, 0)) else ([], 2)
theorem enc_bytes (k : Int) (p : List Int) (hk : k = 1 ∨ k = 2) (hp : IsBytes p) (hl : p.length ≤ 60000) : IsBytes (enc k p) :=
  isBytes_append (isBytes_append (head5_bytes k _ hk (by omega) (by omega)) hp) (sum4_bytes _)
theorem enc_length (k : Int) (p : List Int) : (enc k p).length = p.length + 9 := by simp [enc, head5, sum4]
def lenAt (s : List Int) : Int := rd s 0 * 256 + rd s 1
def isFrame (s : List Int) : Prop := 9 ≤ s.length ∧ lenAt s + (rd s 2 * 256 + rd s 3) = 65535 ∧ lenAt s ≤ 60000 ∧ (rd s 4 = 1 ∨ rd s 4 = 2) ∧ 9 + lenAt s ≤ s.length ∧ (s.drop (5 + lenAt s).toNat).take 4 = sum4 (ck (s.take (5 + lenAt s).toNat))
noncomputable def frameAt (s : List Int) : Option Z.S57 := open Classical in if isFrame s then some ⟨rd s 4, (s.take (5 + lenAt s).toNat).drop 5⟩ else none
noncomputable def scanF : Nat → List Int → Nat → List Z.S57 × Nat
  | 0, _, p => ([], p)
  | m + 1, b, p => match frameAt (b.drop p) with
    | none => ([], p)
    | some f => (f :: (scanF m b (p + 9 + f.f1.length)).1, (scanF m b (p + 9 + f.f1.length)).2)
theorem frame_pos {s : List Int} (h : isFrame s) : frameAt s = some ⟨rd s 4, (s.take (5 + lenAt s).toNat).drop 5⟩ := if_pos h
theorem frame_neg {s : List Int} (h : ¬ isFrame s) : frameAt s = none := if_neg h
theorem frame_len {s : List Int} (hb : IsBytes s) (h : isFrame s) : ((s.take (5 + lenAt s).toNat).drop 5).length = (lenAt s).toNat ∧ 0 ≤ lenAt s := by
  obtain ⟨h1, h2, h3, h4, h5, h6⟩ := h
  have r0 := rd_byte hb 0 (by omega) (by omega)
  have r1 := rd_byte hb 1 (by omega) (by omega)
  have e : 0 ≤ lenAt s := by unfold lenAt; omega
  refine ⟨?_, e⟩
  rw [List.length_drop, List.length_take]
  omega
theorem rd_drop (b : List Int) (p : Nat) (i : Int) (h : 0 ≤ i) : rd (b.drop p) i = rd b ((p : Int) + i) := by
  simp only [rd, List.getD_eq_getElem?_getD, List.getElem?_drop]
  rw [show p + i.toNat = ((p : Int) + i).toNat by omega]
theorem rd_take (b : List Int) (n : Nat) (i : Int) (h : 0 ≤ i) (h1 : i < n) : rd (b.take n) i = rd b i := by
  simp only [rd, List.getD_eq_getElem?_getD, List.getElem?_take]
  rw [if_pos (by omega)]
theorem ext4 (a b : List Int) (ha : a.length = 4) (hb : b.length = 4) : a = b ↔ rd a 0 = rd b 0 ∧ rd a 1 = rd b 1 ∧ rd a 2 = rd b 2 ∧ rd a 3 = rd b 3 := by
  obtain ⟨a0, a1, a2, a3, rfl⟩ : ∃ a0 a1 a2 a3, a = [a0, a1, a2, a3] := by
    match a, ha with
    | [a0, a1, a2, a3], _ => exact ⟨a0, a1, a2, a3, rfl⟩
  obtain ⟨b0, b1, b2, b3, rfl⟩ : ∃ a0 a1 a2 a3, b = [a0, a1, a2, a3] := by
    match b, hb with
    | [a0, a1, a2, a3], _ => exact ⟨a0, a1, a2, a3, rfl⟩
  simp [rd]
theorem sum4_length (n : Int) : (sum4 n).length = 4 := rfl
theorem take5 (s : List Int) (h : 5 ≤ s.length) : s.take 5 = [rd s 0, rd s 1, rd s 2, rd s 3, rd s 4] := by
  match s, h with
  | a0 :: a1 :: a2 :: a3 :: a4 :: l, _ => simp [rd]
theorem enc_frame (s : List Int) (hs : IsBytes s) (h9 : 9 ≤ s.length) (h6 : lenAt s ≤ 60000) (hk : rd s 4 = 1 ∨ rd s 4 = 2) (hlen : 9 + lenAt s ≤ s.length) (n0 : 0 ≤ lenAt s) :
    enc (rd s 4) ((s.take (5 + lenAt s).toNat).drop 5) = s.take (9 + lenAt s).toNat ↔ isFrame s := by
  obtain ⟨q00, q01⟩ := rd_byte hs 0 (by omega) (by omega)
  obtain ⟨q10, q11⟩ := rd_byte hs 1 (by omega) (by omega)
  obtain ⟨q20, q21⟩ := rd_byte hs 2 (by omega) (by omega)
  obtain ⟨q30, q31⟩ := rd_byte hs 3 (by omega) (by omega)
  have hpl : ((s.take (5 + lenAt s).toNat).drop 5).length = (lenAt s).toNat := by rw [List.length_drop, List.length_take]; omega
  have e1 : s.take (5 + lenAt s).toNat = [rd s 0, rd s 1, rd s 2, rd s 3, rd s 4] ++ (s.take (5 + lenAt s).toNat).drop 5 := by
    have h := (List.take_append_drop 5 (s.take (5 + lenAt s).toNat)).symm
    rw [List.take_take, Nat.min_eq_left (by omega), take5 s (by omega)] at h
    exact h
  have e2 : s.take (9 + lenAt s).toNat = s.take (5 + lenAt s).toNat ++ (s.drop (5 + lenAt s).toNat).take 4 := by
    rw [show (9 + lenAt s).toNat = (5 + lenAt s).toNat + 4 by omega, List.take_add]
  have hx : lenAt s = rd s 0 * 256 + rd s 1 := rfl
  unfold enc
  rw [hpl, Int.toNat_of_nonneg n0, e2]
  constructor
  · intro h
    have hh := List.append_inj h (by rw [List.length_append, hpl, List.length_take]; simp [head5]; omega)
    have h1 := hh.1.trans e1
    rw [List.append_cancel_right_eq] at h1
    simp only [head5, List.cons.injEq, and_true] at h1
    refine ⟨h9, by omega, h6, hk, hlen, ?_⟩
    rw [← hh.2, hh.1]
  · rintro ⟨_, h2, _, _, _, h6'⟩
    have h1 : head5 (rd s 4) (lenAt s) = [rd s 0, rd s 1, rd s 2, rd s 3, rd s 4] := by
      simp only [head5, List.cons.injEq, and_true]
      refine ⟨?_, ?_, ?_, ?_⟩ <;> omega
    rw [h1, ← e1, h6']
theorem bytesOf_inj : ∀ {a b : List Int}, IsBytes a → IsBytes b → (strOfNums a).toList = (strOfNums b).toList → a = b := by
  intro a b ha hb h
  rw [Lib.strOfNums_toList, Lib.strOfNums_toList] at h
  unfold Lib.bytesOf at h
  induction a generalizing b with
  | nil => cases b with
    | nil => rfl
    | cons y b => simp at h
  | cons x a ih => cases b with
    | nil => simp at h
    | cons y b =>
      simp only [List.map_cons, List.cons.injEq] at h
      have hx := ha x (List.mem_cons_self)
      have hy := hb y (List.mem_cons_self)
      have e : x = y := by
        have := congrArg UInt8.toNat h.1
        simp only [UInt8.toNat_ofNat'] at this
        omega
      rw [e, ih (fun z hz => ha z (List.mem_cons_of_mem _ hz)) (fun z hz => hb z (List.mem_cons_of_mem _ hz)) h.2]
def Good (f : Z.S57) : Prop := (f.f0 = 1 ∨ f.f0 = 2) ∧ IsBytes f.f1 ∧ f.f1.length ≤ 60000
def encF (f : Z.S57) : List Int := enc f.f0 f.f1
def encAll : List Z.S57 → List Int
  | [] => []
  | f :: l => encF f ++ encAll l
theorem encAll_append (l m : List Z.S57) : encAll (l ++ m) = encAll l ++ encAll m := by
  induction l with
  | nil => rfl
  | cons f l ih => simp only [List.cons_append, encAll, ih, List.append_assoc]
theorem encAll_bytes (l : List Z.S57) (h : ∀ f ∈ l, Good f) : IsBytes (encAll l) := by
  induction l with
  | nil => intro x hx; cases hx
  | cons f l ih =>
    obtain ⟨h1, h2, h3⟩ := h f (List.mem_cons_self)
    exact isBytes_append (enc_bytes _ _ h1 h2 h3) (ih (fun g hg => h g (List.mem_cons_of_mem _ hg)))
theorem enc_parts (k : Int) (p r : List Int) (hp : p.length ≤ 60000) : lenAt (enc k p ++ r) = p.length ∧ rd (enc k p ++ r) 2 = 255 - (p.length : Int) / 256 ∧ rd (enc k p ++ r) 3 = 255 - (p.length : Int) % 256 ∧ rd (enc k p ++ r) 4 = k := by
  simp only [lenAt, enc, head5, List.append_assoc, List.cons_append, List.nil_append, rd]
  refine ⟨?_, rfl, rfl, rfl⟩
  show (p.length : Int) / 256 * 256 + (p.length : Int) % 256 = _
  omega
theorem enc_take (k : Int) (p r : List Int) : (enc k p ++ r).take (5 + p.length) = head5 k p.length ++ p ∧ ((enc k p ++ r).drop (5 + p.length)).take 4 = sum4 (ck (head5 k p.length ++ p)) := by
  have hl : (head5 k p.length ++ p).length = 5 + p.length := by simp [head5]; omega
  unfold enc
  rw [List.append_assoc, List.take_left' hl, List.drop_left' hl, List.take_left' (sum4_length _)]
  exact ⟨rfl, rfl⟩
theorem frame_enc (k : Int) (p r : List Int) (hk : k = 1 ∨ k = 2) (hp : p.length ≤ 60000) : frameAt (enc k p ++ r) = some ⟨k, p⟩ := by
  obtain ⟨e0, e2, e3, e4⟩ := enc_parts k p r hp
  obtain ⟨t1, t2⟩ := enc_take k p r
  have hl := enc_length k p
  have e5 : (5 + lenAt (enc k p ++ r)).toNat = 5 + p.length := by rw [e0]; omega
  have hf : isFrame (enc k p ++ r) := by
    refine ⟨by rw [List.length_append]; omega, by rw [e0, e2, e3]; omega, by rw [e0]; omega, by rw [e4]; exact hk, by rw [e0, List.length_append]; omega, ?_⟩
    rw [e5, t2, t1]
  rw [frame_pos hf, e4, e5, t1]
  congr 2
theorem frame_torn (k : Int) (p : List Int) (n : Nat) (hp : p.length ≤ 60000) (hn : n < p.length + 9) : frameAt ((enc k p).take n) = none := by
  refine frame_neg fun hf => ?_
  obtain ⟨h1, _, _, _, h5, _⟩ := hf
  obtain ⟨e0, _⟩ := enc_parts k p [] hp
  rw [List.append_nil] at e0
  have hl := enc_length k p
  rw [List.length_take] at h1 h5
  have : lenAt ((enc k p).take n) = lenAt (enc k p) := by
    unfold lenAt
    rw [rd_take _ _ 0 (by omega) (by omega), rd_take _ _ 1 (by omega) (by omega)]
  rw [this, e0] at h5
  omega
theorem frame_nil : frameAt [] = none := frame_neg fun hf => by have := hf.1; simp at this
theorem scan_line (b : List Int) (rest : List Int) (hr : frameAt rest = none) : ∀ (fs : List Z.S57) (m p : Nat), (∀ f ∈ fs, Good f) → fs.length ≤ m → b.drop p = encAll fs ++ rest → scanF m b p = (fs, p + (encAll fs).length) := by
  intro fs
  induction fs with
  | nil =>
    intro m p _ _ hd
    cases m with
    | zero => simp [scanF, encAll]
    | succ m =>
      rw [scanF, hd]
      simp only [encAll, List.nil_append, hr, List.length_nil, Nat.add_zero]
  | cons f fs ih =>
    intro m p hg hm hd
    obtain ⟨h1, h2, h3⟩ := hg f (List.mem_cons_self)
    cases m with
    | zero => simp at hm
    | succ m =>
      have hfa : frameAt (b.drop p) = some f := by
        rw [hd]
        simp only [encAll, encF, List.append_assoc]
        exact frame_enc f.f0 f.f1 _ h1 h3
      have hl : (encF f).length = f.f1.length + 9 := enc_length _ _
      have hd2 : b.drop (p + 9 + f.f1.length) = encAll fs ++ rest := by
        rw [show p + 9 + f.f1.length = p + (encF f).length by omega, ← List.drop_drop, hd]
        simp only [encAll, List.append_assoc]
        exact List.drop_left' rfl
      rw [scanF, hfa]
      simp only
      rw [ih m _ (fun g hg' => hg g (List.mem_cons_of_mem _ hg')) (by simp at hm; omega) hd2]
      simp only [encAll, List.length_append, Prod.mk.injEq, true_and]
      omega
theorem encAll_length (fs : List Z.S57) : fs.length ≤ (encAll fs).length := by
  induction fs with
  | nil => simp
  | cons f fs ih =>
    have hl : (encF f).length = f.f1.length + 9 := enc_length _ _
    simp only [encAll, List.length_append, List.length_cons]; omega
theorem scan_all (fs : List Z.S57) (rest : List Int) (hr : frameAt rest = none) (hg : ∀ f ∈ fs, Good f) : scanF (encAll fs ++ rest).length (encAll fs ++ rest) 0 = (fs, (encAll fs).length) := by
  have := scan_line (encAll fs ++ rest) rest hr fs (encAll fs ++ rest).length 0 hg (by have := encAll_length fs; rw [List.length_append]; omega) rfl
  rw [this, Nat.zero_add]
theorem scanF_le (b : List Int) (hb : IsBytes b) : ∀ (m p : Nat), p ≤ b.length → (scanF m b p).2 ≤ b.length ∧ (scanF m b p).1.length ≤ m := by
  intro m
  induction m with
  | zero => intro p hp; simp [scanF]; exact hp
  | succ m ih =>
    intro p hp
    rw [scanF]
    split
    · simp; exact hp
    · rename_i f hf
      have hfr : isFrame (b.drop p) := Classical.byContradiction fun h => by rw [frame_neg h] at hf; cases hf
      have hl := frame_len (isBytes_drop hb p) hfr
      rw [frame_pos hfr] at hf
      injection hf with hf
      subst hf
      have h5 := hfr.2.2.2.2.1
      rw [List.length_drop] at h5
      have := ih (p + 9 + (lenAt (b.drop p)).toNat) (by omega)
      simp only [hl.1, List.length_cons]
      omega
def gather : List Z.S57 → List Int × Bool × List (List Int) → List Int × Bool × List (List Int)
  | [], r => r
  | f :: l, r => gather l (if f.f0 = 2 then (f.f1, true, []) else (r.1, r.2.1, r.2.2 ++ [f.f1]))
theorem gather_append (l m : List Z.S57) (r : List Int × Bool × List (List Int)) : gather (l ++ m) r = gather m (gather l r) := by
  induction l generalizing r with
  | nil => rfl
  | cons f l ih => simp only [List.cons_append, gather, ih]
def recs (l : List (List Int)) : List Z.S57 := l.map fun p => ⟨1, p⟩
theorem gather_recs (l : List (List Int)) (r : List Int × Bool × List (List Int)) : gather (recs l) r = (r.1, r.2.1, r.2.2 ++ l) := by
  induction l generalizing r with
  | nil => simp [recs, gather]
  | cons p l ih =>
    simp only [recs, List.map_cons, gather] at ih ⊢
    rw [if_neg (by decide), ih]
    simp
theorem recs_good (l : List (List Int)) (h : ∀ p ∈ l, IsBytes p ∧ p.length ≤ 60000) : ∀ f ∈ recs l, Good f := by
  intro f hf
  simp only [recs, List.mem_map] at hf
  obtain ⟨p, hp, rfl⟩ := hf
  exact ⟨.inl rfl, (h p hp).1, (h p hp).2⟩
theorem drop_cons57 (l : List Z.S57) (i : Nat) (h : i < l.length) : l.drop i = Z.rd_T57 l (i : Int) :: l.drop (i + 1) := by
  rw [List.drop_eq_getElem_cons h]
  simp [Z.rd_T57, List.getD_eq_getElem?_getD, List.getElem?_eq_getElem h]
theorem drop_consL1 (l : List (List Int)) (i : Nat) (h : i < l.length) : l.drop i = Z.rd_L1 l (i : Int) :: l.drop (i + 1) := by
  rw [List.drop_eq_getElem_cons h]
  simp [Z.rd_L1, List.getD_eq_getElem?_getD, List.getElem?_eq_getElem h]
noncomputable def opened (b : List Int) : List Int × Bool × List (List Int) := gather (scanF b.length b 0).1 ([], false, [])
theorem opened_all (fs : List Z.S57) (rest : List Int) (hr : frameAt rest = none) (hg : ∀ f ∈ fs, Good f) : opened (encAll fs ++ rest) = gather fs ([], false, []) := by
  unfold opened
  rw [scan_all fs rest hr hg]
def cut2 (l : List (List Int)) : List (List Int) := (l.take 16).map (List.take 300)
theorem cut2_good (l : List (List Int)) (h : ∀ p ∈ l, IsBytes p) : (cut2 l).length ≤ 16 ∧ ∀ p ∈ cut2 l, IsBytes p ∧ p.length ≤ 300 := by
  refine ⟨by simp [cut2]; omega, fun p hp => ?_⟩
  simp only [cut2, List.mem_map] at hp
  obtain ⟨q, hq, rfl⟩ := hp
  exact ⟨isBytes_take (h q (List.mem_of_mem_take hq)) _, by rw [List.length_take]; omega⟩
theorem scanF_length (b : List Int) : ∀ (m p : Nat), (scanF m b p).1.length ≤ m := by
  intro m
  induction m with
  | zero => intro p; simp [scanF]
  | succ m ih =>
    intro p
    rw [scanF]
    split
    · simp
    · rename_i f _
      have := ih (p + 9 + f.f1.length)
      simp only [List.length_cons]
      omega
theorem encRecs_len (l : List (List Int)) (h : ∀ p ∈ l, p.length ≤ 300) : (encAll (recs l)).length ≤ 309 * l.length := by
  induction l with
  | nil => simp [recs, encAll]
  | cons p l ih =>
    have h1 := h p (List.mem_cons_self)
    have h2 := ih (fun q hq => h q (List.mem_cons_of_mem _ hq))
    have h3 : (encF ⟨1, p⟩).length = p.length + 9 := enc_length 1 p
    simp only [recs, List.map_cons, encAll, List.length_append, List.length_cons] at h2 ⊢
    omega
theorem recs_cons (p : List Int) (l : List (List Int)) : encAll (recs (p :: l)) = enc 1 p ++ encAll (recs l) := rfl
theorem rdL1_mem (l : List (List Int)) (i : Nat) (h : i < l.length) : Z.rd_L1 l (i : Int) ∈ l := by
  have := drop_consL1 l i h
  exact List.mem_of_mem_drop (this ▸ List.mem_cons_self)
end Go.Proofs.Ytfljnggpnndmkaa.Pure
