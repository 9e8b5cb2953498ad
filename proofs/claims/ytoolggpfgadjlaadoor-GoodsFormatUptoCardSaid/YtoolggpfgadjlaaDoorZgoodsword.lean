/- Printed: a Go function in plain Lean, and that its call does what it says. Conditions: those each theorem states. -/
import Derived.Test.YtoolggpfgadjlaaDoorZ0
namespace Go.Proofs.YtoolggpfgadjlaaDoor.Z
open Go.RowKit Go.Proofs.YtoolggpfgadjlaaDoorW.PrintWords Go.Proofs.YtoolggpfgadjlaaDoorW.PrintLast Go.Proofs.YtoolggpfgadjlaaDoorW.PrintMore
attribute [local go_sem high] str_leq str_geq str_gtr   -- strings
attribute [local go_sem] max2_int min2_int max_two min_two max_three min_three max_four min_four   -- for this text's walks alone
set_option linter.unusedVariables false
set_option linter.unusedSimpArgs false

/-! ### goods_word: function 28 -/
def letters (l : List UInt8) : Bool := l.all fun b => decide (97 ≤ b.toNat ∧ b.toNat ≤ 122)
theorem letters_at (s : ByteArray) (pos : Nat) (h : pos < s.size) : letters (s.data.toList.drop pos) = (decide (97 ≤ (s[pos]'h).toNat ∧ (s[pos]'h).toNat ≤ 122) && letters (s.data.toList.drop (pos + 1))) := by
 have hl : pos < s.data.toList.length := by rw [Array.length_toList]; exact h
 rw [List.drop_eq_getElem_cons hl]
 rfl
set_option maxRecDepth 100000 in
theorem word_letters (s : ByteArray) (w : World) (e0 : s.toList.isEmpty = false) (h1 : s.size ≤ 12) :
  Calls Tryd.prog 28 #[.string s] w fun e w' => e = .returned (.bool (letters s.data.toList)) ∧ Below w.heap.size w w' := by
 have e1 : decide (12 < (s.size : Int)) = false := decide_eq_false (by omega)
 have e2 : (s.toList = []) = False := eq_false (by intro h; rw [h] at e0; cases e0)
 have hu := Tryd.underlying9
 go_enter Tryd.func28, Tryd.ntmps28
 go_wp2
 go_loopw [4] (fun _ w' => ∃ pos, w' = w.iter s pos ∧ Aside0 (letters (s.data.toList.drop pos) = letters s.data.toList) ∧ Aside0 (pos ≤ s.size)) (fun _ w' => s.size - w'.iterPos w.heap.size)
 case atStart => exact ⟨0, rfl, ⟨rfl⟩, ⟨Nat.zero_le _⟩⟩
 case round =>
  obtain ⟨pos, rfl, hl, hp0⟩ := hrel
  by_cases hp : pos < s.size
  ·
   have hL := Aside0.mk (letters_at s pos hp)
   by_cases hb : 97 ≤ (s[pos]'hp).toNat ∧ (s[pos]'hp).toNat ≤ 122
   ·
    have hd := decode_ascii s pos hp (by omega)
    have hnx : ∀ ty, (Instr.next (.pointer (some ⟨w.heap.size, 0, none⟩)) true ty).run Tryd.prog (w.iter s pos) = .ok (.tuple #[.bool true, .int .i64 pos, .int .i32 (s[pos]'hp).toNat]) (w.iter s (pos + 1)) := fun ty => by
     rw [run_next_any w s pos ty hp, hd]
    have c1 : decide (((s[pos]'hp).toNat : Int) < 97) = false := decide_eq_false (by omega)
    have c2 : decide (122 < ((s[pos]'hp).toNat : Int)) = false := decide_eq_false (by omega)
    have HB := Aside0.mk hb
    clear hb
    go_wp2
    go_roundw
    case rel => exact ⟨pos + 1, rfl, ⟨by rw [← hl.out, hL.out, decide_eq_true HB.out, Bool.true_and]⟩, ⟨by omega⟩⟩
    case measure =>
     simp
     omega
   ·
    have hout : ((Utf8.decode s pos).1 : Int) < 97 ∨ 122 < ((Utf8.decode s pos).1 : Int) := by
     by_cases ha : (s[pos]'hp).toNat < 128
     ·
      rw [decode_ascii s pos hp ha]
      dsimp only
      omega
     ·
      have := (decode_high s pos hp (by omega)).1
      omega
    have hnx : ∀ ty, (Instr.next (.pointer (some ⟨w.heap.size, 0, none⟩)) true ty).run Tryd.prog (w.iter s pos) = _ := fun ty => run_next_any w s pos ty hp
    have hz : letters s.data.toList = false := by rw [← hl.out, hL.out, decide_eq_false hb, Bool.false_and]
    have HZ := Aside0.mk hz
    clear hb hz
    generalize (Utf8.decode s pos).1 = c at hout hnx
    by_cases c1 : (c : Int) < 97
    ·
     have c1' := decide_eq_true c1
     have HO := Aside0.mk hout
     clear hout
     go_wp2
     go_ret
     exact ⟨by rw [HZ.out]; rfl, below_alloc (Below.refl _ _) _⟩
    ·
     have c1' := decide_eq_false c1
     have c2 : (122 : Int) < c := by omega
     have c2' := decide_eq_true c2
     clear hout
     go_wp2
     go_ret
     exact ⟨by rw [HZ.out]; rfl, below_alloc (Below.refl _ _) _⟩
  ·
   have hnx : ∀ ty, (Instr.next (.pointer (some ⟨w.heap.size, 0, none⟩)) true ty).run Tryd.prog (w.iter s pos) = _ := fun ty => run_next_end w s pos ty hp
   have hz : letters s.data.toList = true := by rw [← hl.out, List.drop_of_length_le (by rw [Array.length_toList]; exact Nat.le_of_not_lt hp)]; rfl
   have HZ := Aside0.mk hz
   clear hz
   go_wp2
   go_ret
   exact ⟨by rw [HZ.out]; rfl, below_alloc (Below.refl _ _) _⟩
def goods_word.f (a0 : ByteArray) : Option Bool := some (if a0.toList.isEmpty = true then false else if a0.size ≤ 12 then letters a0.data.toList else false)
set_option maxRecDepth 100000 in
theorem goods_word.calls (a0 : ByteArray) (r : Bool) (w : World) (h : goods_word.f a0 = some r) : Calls Tryd.prog 28 #[.string a0] w fun e w' => e = .returned (.bool r) ∧ Below w.heap.size w w' := by
 obtain rfl := Option.some.inj h
 clear h
 cases he : a0.toList.isEmpty with
 | true =>
  have e2 : (a0.toList = []) = True := eq_true (List.isEmpty_iff.mp he)
  have hu := Tryd.underlying9
  go_enter Tryd.func28, Tryd.ntmps28
  go_wp2
  go_ret
  exact ⟨rfl, Below.refl _ _⟩
 | false =>
  by_cases h1 : a0.size ≤ 12
  ·
   rw [if_neg (by decide), if_pos h1]
   exact word_letters a0 w he h1
  ·
   rw [if_neg (by decide), if_neg h1]
   have e1 : decide (12 < (a0.size : Int)) = true := decide_eq_true (by omega)
   have e2 : (a0.toList = []) = False := eq_false (by intro h; rw [h] at he; cases he)
   have hu := Tryd.underlying9
   go_enter Tryd.func28, Tryd.ntmps28
   go_wp2
   go_ret
   exact ⟨rfl, Below.refl _ _⟩

end Go.Proofs.YtoolggpfgadjlaaDoor.Z
