/- What the reference's disk computes. Conditions: those each theorem states. -/
import Derived.Test.YtfljnggpnndmkaaJFns
import Derived.Test.YtfljnggpnndmkaaZcustomsref33Write
import Derived.Test.YtfljnggpnndmkaaZcustomsref33Sync
import Derived.Test.YtfljnggpnndmkaaZcustomsref33SameDisk
import Derived.Test.YtfljnggpnndmkaaZcustomsref33Truncate
namespace Go.Proofs.Ytfljnggpnndmkaa.Pure
open Go.RowKit Go.Proofs.YtfljnggpnndmkaaW.PrintWords Go.Proofs.YtfljnggpnndmkaaW.PrintLast Go.Proofs.YtfljnggpnndmkaaW.PrintMore Go.Proofs.Ytfljnggpnndmkaa.Opening
set_option linter.unusedVariables false
set_option linter.unusedSimpArgs false
theorem sameDisk_self (a b : List Int) : Z.customsref33_SameDisk.f a b a b = some true := by simp [Z.customsref33_SameDisk.f, sameBytes_self]
theorem ref_read_eq (a b : List Int) (h : a.length + b.length ≤ 140737488351232) : Z.customsref33_Read.f a b = some (a ++ b) := by
  simp only [Z.customsref33_Read.f, Option.bind_some, List.nil_append, List.length_nil]
  rw [if_pos (by omega), if_pos (by omega)]
theorem ref_sync_eq (a b : List Int) (h : a.length + b.length ≤ 140737488351232) : Z.customsref33_Sync.f a b = some (a ++ b, []) := by
  simp only [Z.customsref33_Sync.f, ref_read_eq a b h, Option.bind_some]
theorem ref_write_eq (a b c : List Int) (ha : a.length ≤ 140737488351232) (hb : b.length ≤ 140737488351232) (hc : c.length ≤ 140737488351232) : Z.customsref33_Write.f a b c = some (if a.length + b.length + c.length > 1000000 then ([], [], 8) else (a, b ++ c, 0)) := by
  simp only [Z.customsref33_Write.f, Option.bind_some, List.nil_append, List.length_nil]
  rw [wrap64_id ((a.length : Int) + (b.length : Int)) (by omega), wrap64_id (1000000 - (c.length : Int)) (by omega)]
  by_cases h : a.length + b.length + c.length > 1000000
  · rw [if_pos (by omega), if_pos h]
  · rw [if_neg (by omega), if_neg h, if_pos (by omega), if_pos (by omega)]
theorem ref_truncate_eq (a b : List Int) (n : Int) (h : a.length + b.length ≤ 140737488351232) : Z.customsref33_Truncate.f a b n = some (trunc2 a b n) := by
  simp only [Z.customsref33_Truncate.f, ref_read_eq a b h, Option.bind_some, trunc2]
  by_cases h0 : n < 0
  · rw [if_pos h0, if_pos (.inl h0)]
  · by_cases h1 : n > ((a ++ b).length : Int)
    · rw [if_neg h0, if_pos h1, if_pos (.inr h1)]
    · rw [if_neg h0, if_neg h1, if_pos (by omega), if_pos (by omega), if_neg (by omega)]
end Go.Proofs.Ytfljnggpnndmkaa.Pure
