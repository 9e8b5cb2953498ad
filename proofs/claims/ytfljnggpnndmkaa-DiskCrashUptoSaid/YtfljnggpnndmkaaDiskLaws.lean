/- What the disk's functions and the reference's compute, in plain words. Conditions: those each theorem states. -/
import Derived.Test.YtfljnggpnndmkaaZcustomslaw33awake
import Derived.Test.YtfljnggpnndmkaaZcustomsref33Write
import Derived.Test.YtfljnggpnndmkaaZcustomsref33SameDisk
import Derived.Test.YtfljnggpnndmkaaZcustomsref33Sync
import Derived.Test.YtfljnggpnndmkaaOpn
namespace Go.Proofs.Ytfljnggpnndmkaa.Pure
open Go.RowKit Go.Proofs.YtfljnggpnndmkaaW.PrintWords Go.Proofs.YtfljnggpnndmkaaW.PrintLast Go.Proofs.YtfljnggpnndmkaaW.PrintMore Go.Proofs.Ytfljnggpnndmkaa.Opening
theorem wrap64_id (n : Int) (h : -9223372036854775808 ≤ n ∧ n ≤ 9223372036854775807) : wrap64 n = n := by unfold wrap64; omega
theorem bkL_one {α : Type} (l : List α) : bkL (fun _ => 1) l = l.length + 1 := by
  unfold bkL
  induction l with
  | nil => rfl
  | cons x l ih => simp only [List.map_cons, List.sum_cons, List.length_cons] at *; omega
theorem awake33 : Z.customslaw33_awake.f = some true := by kernel_rfl
theorem sameBytes_self (l : List Int) : Z.customsref33_SameBytes.f l l = some true := by simp [Z.customsref33_SameBytes.f]
theorem sameDisk_self (a b : List Int) : Z.customsref33_SameDisk.f a b a b = some true := by simp [Z.customsref33_SameDisk.f, sameBytes_self]
theorem read_eq (a b : List Int) (h : a.length + b.length ≤ 140737488351232) : Z.disk_Read.f a b = some (a ++ b) := by
  simp only [Z.disk_Read.f, Z.slices_Concat_byte_byte.f]
  rw [if_pos (by omega)]
  rfl
theorem ref_read_eq (a b : List Int) (h : a.length + b.length ≤ 140737488351232) : Z.customsref33_Read.f a b = some (a ++ b) := by
  simp only [Z.customsref33_Read.f, Option.bind_some, List.nil_append, List.length_nil]
  rw [if_pos (by omega), if_pos (by omega)]
theorem sync_eq (a b : List Int) (h : a.length + b.length ≤ 140737488351232) : Z.disk_Sync.f a b = some (a ++ b, []) := by
  simp only [Z.disk_Sync.f, read_eq a b h, Option.bind_some]
theorem ref_sync_eq (a b : List Int) (h : a.length + b.length ≤ 140737488351232) : Z.customsref33_Sync.f a b = some (a ++ b, []) := by
  simp only [Z.customsref33_Sync.f, ref_read_eq a b h, Option.bind_some]
theorem write_eq (a b c : List Int) (ha : a.length ≤ 140737488351232) (hb : b.length ≤ 140737488351232) (hc : c.length ≤ 140737488351232) : Z.disk_Write.f a b c = some (if a.length + b.length + c.length > 1000000 then ([], [], 8) else (a, b ++ c, 0)) := by
  simp only [Z.disk_Write.f, Z.slices_Clone_byte_byte.f, Z.slices_Concat_byte_byte.f]
  rw [wrap64_id ((a.length : Int) + (b.length : Int)) (by omega), wrap64_id ((a.length : Int) + (b.length : Int) + (c.length : Int)) (by omega)]
  by_cases h : a.length + b.length + c.length > 1000000
  · rw [if_pos (by omega), if_pos h]
  · rw [if_neg (by omega), if_neg h, if_pos (by omega), if_pos (by omega)]
    rfl
theorem ref_write_eq (a b c : List Int) (ha : a.length ≤ 140737488351232) (hb : b.length ≤ 140737488351232) (hc : c.length ≤ 140737488351232) : Z.customsref33_Write.f a b c = some (if a.length + b.length + c.length > 1000000 then ([], [], 8) else (a, b ++ c, 0)) := by
  simp only [Z.customsref33_Write.f, Option.bind_some, List.nil_append, List.length_nil]
  rw [wrap64_id ((a.length : Int) + (b.length : Int)) (by omega), wrap64_id (1000000 - (c.length : Int)) (by omega)]
  by_cases h : a.length + b.length + c.length > 1000000
  · rw [if_pos (by omega), if_pos h]
  · rw [if_neg (by omega), if_neg h, if_pos (by omega), if_pos (by omega)]
end Go.Proofs.Ytfljnggpnndmkaa.Pure
