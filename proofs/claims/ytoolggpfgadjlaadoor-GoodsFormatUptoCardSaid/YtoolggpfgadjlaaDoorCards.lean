/-
  DERIVED. GIVEN WITH THE SEED: THE CARDS: each row of YtoolggpfgadjlaaDoorRows.lean that lists a variable, with what it lists TIED to the program's text (the seventh form; the later family's looks); each row that meets fmt, with fmt's text TOLD by the authors' own Lean function (tested against real Go, not proved from fmt's source: count such statements apart). THE CARD IS WHAT COUNTS. Prove the row's statement (the work); the ties are given (YtoolggpfgadjlaaDoorTie.lean); close each card by the builder's one call (the guide's Derived/Test/ToyasCard.lean, 'card_holds'). Laid BY PROGRAM, IN A SANDBOX (cutbox-door.mjs). By AI agents, Wed Nov 11 2026. No macro, syntax, notation, axiom, sorry.
-/
import Derived.Test.YtoolggpfgadjlaaDoorRows
import GoSem.ClaimSeven
namespace Go.Proofs.YtoolggpfgadjlaaDoor
namespace Rows

/-- THE TIED CARD OF 'customslaw08.GoodsValidate'. -/
def goodsValidateCard : Claim7 := { stood := { row := goodsValidateRow, standIns := [], harness := (true, "78a2a7c10d03e9d93690cfbe7b6ba6d8c84e736c52347046ea0288adb6dd7fb1"), looks := true }, kinds := [], alts := [], laidByText := true, laidKinds := [.data, .data, .data, .data, .sentinel, .sentinel, .pinned], laidTests := true, laidLooks := .later }
def GoodsValidateCardSaid : Prop := Claim7.holds Tryd.pinned (.plain (OpenSpec.ofChange goodsValidateSpec)) goodsValidateCard

/-- THE TIED CARD OF 'customslaw08.GoodsShares'. -/
def goodsSharesCard : Claim7 := { stood := { row := goodsSharesRow, standIns := [], harness := (true, "78a2a7c10d03e9d93690cfbe7b6ba6d8c84e736c52347046ea0288adb6dd7fb1"), looks := true }, kinds := [], alts := [], laidByText := true, laidKinds := [.data, .data, .data, .data, .sentinel, .sentinel, .pinned], laidTests := true, laidLooks := .later }
def GoodsSharesCardSaid : Prop := Claim7.holds Tryd.pinned (.plain (OpenSpec.ofChange goodsSharesSpec)) goodsSharesCard

/-- THE TIED CARD OF 'customslaw08.GoodsFormat'. -/
def goodsFormatCard : Claim7 := { stood := { row := goodsFormatRow, standIns := [], harness := (true, "78a2a7c10d03e9d93690cfbe7b6ba6d8c84e736c52347046ea0288adb6dd7fb1"), looks := true }, kinds := [], alts := [], laidByText := true, laidKinds := [.data, .data, .data, .data, .sentinel, .sentinel, .pinned], laidTests := true, laidLooks := .later }
def GoodsFormatCardSaid : Prop := Claim7.holds Tryd.pinned (.plain (OpenSpec.ofChange goodsFormatSpec)) goodsFormatCard

/-- THE TIED CARD OF 'customslaw08.GoodsParse'. -/
def goodsParseCard : Claim7 := { stood := { row := goodsParseRow, standIns := [], harness := (true, "78a2a7c10d03e9d93690cfbe7b6ba6d8c84e736c52347046ea0288adb6dd7fb1"), looks := true }, kinds := [], alts := [], laidByText := true, laidKinds := [.data, .data, .data, .data, .sentinel, .sentinel, .pinned], laidTests := true, laidLooks := .later }
def GoodsParseCardSaid : Prop := Claim7.holds Tryd.pinned (.plain (OpenSpec.ofChange goodsParseSpec)) goodsParseCard

/-- THE TIED CARD OF 'customslaw08.GoodsCharacters'. -/
def goodsCharactersCard : Claim7 := { stood := { row := goodsCharactersRow, standIns := [], harness := (true, "78a2a7c10d03e9d93690cfbe7b6ba6d8c84e736c52347046ea0288adb6dd7fb1"), looks := true }, kinds := [], alts := [], laidByText := true, laidKinds := [.data, .data, .data, .data, .sentinel, .sentinel, .pinned], laidTests := true, laidLooks := .later }
def GoodsCharactersCardSaid : Prop := Claim7.holds Tryd.pinned (.plain (OpenSpec.ofChange goodsCharactersSpec)) goodsCharactersCard

/-- THE SECOND FORM's CARD OF 'customslaw08.GoodsValidate'. -/
def goodsValidateUptoCard : Claim7 := { stood := { row := goodsValidateUptoRow, standIns := [], harness := (true, "78a2a7c10d03e9d93690cfbe7b6ba6d8c84e736c52347046ea0288adb6dd7fb1"), looks := true }, kinds := [], alts := [], laidByText := true, laidKinds := [.data, .data, .data, .data, .sentinel, .sentinel, .pinned], laidTests := true, laidLooks := .later }
def GoodsValidateUptoCardSaid : Prop := Claim7.holds Tryd.pinned (.plain (OpenSpec.upto goodsValidateSpec)) goodsValidateUptoCard

/-- THE SECOND FORM's CARD OF 'customslaw08.GoodsShares'. -/
def goodsSharesUptoCard : Claim7 := { stood := { row := goodsSharesUptoRow, standIns := [], harness := (true, "78a2a7c10d03e9d93690cfbe7b6ba6d8c84e736c52347046ea0288adb6dd7fb1"), looks := true }, kinds := [], alts := [], laidByText := true, laidKinds := [.data, .data, .data, .data, .sentinel, .sentinel, .pinned], laidTests := true, laidLooks := .later }
def GoodsSharesUptoCardSaid : Prop := Claim7.holds Tryd.pinned (.plain (OpenSpec.upto goodsSharesSpec)) goodsSharesUptoCard

/-- THE SECOND FORM's CARD OF 'customslaw08.GoodsFormat'. -/
def goodsFormatUptoCard : Claim7 := { stood := { row := goodsFormatUptoRow, standIns := [], harness := (true, "78a2a7c10d03e9d93690cfbe7b6ba6d8c84e736c52347046ea0288adb6dd7fb1"), looks := true }, kinds := [], alts := [], laidByText := true, laidKinds := [.data, .data, .data, .data, .sentinel, .sentinel, .pinned], laidTests := true, laidLooks := .later }
def GoodsFormatUptoCardSaid : Prop := Claim7.holds Tryd.pinned (.plain (OpenSpec.upto goodsFormatSpec)) goodsFormatUptoCard

/-- THE SECOND FORM's CARD OF 'customslaw08.GoodsParse'. -/
def goodsParseUptoCard : Claim7 := { stood := { row := goodsParseUptoRow, standIns := [], harness := (true, "78a2a7c10d03e9d93690cfbe7b6ba6d8c84e736c52347046ea0288adb6dd7fb1"), looks := true }, kinds := [], alts := [], laidByText := true, laidKinds := [.data, .data, .data, .data, .sentinel, .sentinel, .pinned], laidTests := true, laidLooks := .later }
def GoodsParseUptoCardSaid : Prop := Claim7.holds Tryd.pinned (.plain (OpenSpec.upto goodsParseSpec)) goodsParseUptoCard

/-- THE SECOND FORM's CARD OF 'customslaw08.GoodsCharacters'. -/
def goodsCharactersUptoCard : Claim7 := { stood := { row := goodsCharactersUptoRow, standIns := [], harness := (true, "78a2a7c10d03e9d93690cfbe7b6ba6d8c84e736c52347046ea0288adb6dd7fb1"), looks := true }, kinds := [], alts := [], laidByText := true, laidKinds := [.data, .data, .data, .data, .sentinel, .sentinel, .pinned], laidTests := true, laidLooks := .later }
def GoodsCharactersUptoCardSaid : Prop := Claim7.holds Tryd.pinned (.plain (OpenSpec.upto goodsCharactersSpec)) goodsCharactersUptoCard
end Rows
end Go.Proofs.YtoolggpfgadjlaaDoor
