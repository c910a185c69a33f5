/-
  DERIVED. GIVEN WITH THE SEED: THE CARDS: each row of YtpniilgkceadeaaGreatDoorRows.lean that lists a variable, with what it lists TIED to the program's text (the seventh form; the later family's looks); each row that meets fmt, with fmt's text TOLD by the authors' own Lean function (tested against real Go, not proved from fmt's source: count such statements apart). THE CARD IS WHAT COUNTS. Prove the row's statement (the work); the ties are given (YtpniilgkceadeaaGreatDoorTie.lean); close each card by the builder's one call (the guide's Derived/Test/ToyasCard.lean, 'card_holds'). Laid BY PROGRAM, IN A SANDBOX (cutbox-door.mjs). By AI agents, Wed Nov 11 2026. No macro, syntax, notation, axiom, sorry.
-/
import Derived.Test.YtpniilgkceadeaaGreatDoorRows
import GoSem.ClaimSeven
namespace Go.Proofs.YtpniilgkceadeaaGreatDoor
namespace Rows

/-- THE TIED CARD OF 'rootcauselaw14.ChoiceBytes'. -/
def choiceBytesCard : Claim7 := { stood := { row := choiceBytesRow, standIns := [], harness := (true, "3351692de5d7aa6a4d59696b544f55e741a6ba5bb5b8b91567440a4883489e97"), looks := true }, kinds := [], alts := [], laidByText := true, laidKinds := [.data, .data, .data, .data], laidTests := true, laidLooks := .later }
def ChoiceBytesCardSaid : Prop := Claim7.holds Tryz.pinned (.plain (OpenSpec.ofChange choiceBytesSpec)) choiceBytesCard

/-- THE TIED CARD OF 'rootcauselaw14.ChoiceParses'. -/
def choiceParsesCard : Claim7 := { stood := { row := choiceParsesRow, standIns := [], harness := (true, "3351692de5d7aa6a4d59696b544f55e741a6ba5bb5b8b91567440a4883489e97"), looks := true }, kinds := [], alts := [], laidByText := true, laidKinds := [.data, .data, .data, .data, .sentinel, .sentinel, .data, .pinned], laidTests := true, laidLooks := .later }
def ChoiceParsesCardSaid : Prop := Claim7.holds Tryz.pinned (.plain (OpenSpec.ofChange choiceParsesSpec)) choiceParsesCard

/-- THE TIED CARD OF 'rootcauselaw14.ChoiceTexts'. -/
def choiceTextsCard : Claim7 := { stood := { row := choiceTextsRow, standIns := [], harness := (true, "3351692de5d7aa6a4d59696b544f55e741a6ba5bb5b8b91567440a4883489e97"), looks := true }, kinds := [], alts := [], laidByText := true, laidKinds := [.data, .data, .data, .data, .sentinel, .sentinel, .data, .pinned], laidTests := true, laidLooks := .later }
def ChoiceTextsCardSaid : Prop := Claim7.holds Tryz.pinned (.plain (OpenSpec.ofChange choiceTextsSpec)) choiceTextsCard

/-- THE SECOND FORM's CARD OF 'rootcauselaw14.ChoiceBytes'. -/
def choiceBytesUptoCard : Claim7 := { stood := { row := choiceBytesUptoRow, standIns := [], harness := (true, "3351692de5d7aa6a4d59696b544f55e741a6ba5bb5b8b91567440a4883489e97"), looks := true }, kinds := [], alts := [], laidByText := true, laidKinds := [.data, .data, .data, .data], laidTests := true, laidLooks := .later }
def ChoiceBytesUptoCardSaid : Prop := Claim7.holds Tryz.pinned (.plain (OpenSpec.upto choiceBytesSpec)) choiceBytesUptoCard

/-- THE SECOND FORM's CARD OF 'rootcauselaw14.ChoiceParses'. -/
def choiceParsesUptoCard : Claim7 := { stood := { row := choiceParsesUptoRow, standIns := [], harness := (true, "3351692de5d7aa6a4d59696b544f55e741a6ba5bb5b8b91567440a4883489e97"), looks := true }, kinds := [], alts := [], laidByText := true, laidKinds := [.data, .data, .data, .data, .sentinel, .sentinel, .data, .pinned], laidTests := true, laidLooks := .later }
def ChoiceParsesUptoCardSaid : Prop := Claim7.holds Tryz.pinned (.plain (OpenSpec.upto choiceParsesSpec)) choiceParsesUptoCard

/-- THE SECOND FORM's CARD OF 'rootcauselaw14.ChoiceTexts'. -/
def choiceTextsUptoCard : Claim7 := { stood := { row := choiceTextsUptoRow, standIns := [], harness := (true, "3351692de5d7aa6a4d59696b544f55e741a6ba5bb5b8b91567440a4883489e97"), looks := true }, kinds := [], alts := [], laidByText := true, laidKinds := [.data, .data, .data, .data, .sentinel, .sentinel, .data, .pinned], laidTests := true, laidLooks := .later }
def ChoiceTextsUptoCardSaid : Prop := Claim7.holds Tryz.pinned (.plain (OpenSpec.upto choiceTextsSpec)) choiceTextsUptoCard
end Rows
end Go.Proofs.YtpniilgkceadeaaGreatDoor
