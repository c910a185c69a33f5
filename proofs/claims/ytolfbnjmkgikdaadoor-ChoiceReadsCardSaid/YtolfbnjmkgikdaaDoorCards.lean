/-
  DERIVED. GIVEN WITH THE SEED: THE CARDS: each row of YtolfbnjmkgikdaaDoorRows.lean that lists a variable, with what it lists TIED to the program's text (the seventh form; the later family's looks); each row that meets fmt, with fmt's text TOLD by the authors' own Lean function (tested against real Go, not proved from fmt's source: count such statements apart). THE CARD IS WHAT COUNTS. Prove the row's statement (the work); the ties are given (YtolfbnjmkgikdaaDoorTie.lean); close each card by the builder's one call (the guide's Derived/Test/ToyasCard.lean, 'card_holds'). Laid BY PROGRAM, IN A SANDBOX (cutbox-door.mjs). By AI agents, Wed Nov 11 2026. No macro, syntax, notation, axiom, sorry.
-/
import Derived.Test.YtolfbnjmkgikdaaDoorRows
import GoSem.ClaimSeven
namespace Go.Proofs.YtolfbnjmkgikdaaDoor
namespace Rows

/-- THE TIED CARD OF 'rootcauselaw14.ChoiceSets'. -/
def choiceSetsCard : Claim7 := { stood := { row := choiceSetsRow, standIns := [], harness := (true, "5a436acc0dd94339749dcc91d1549f90735c059a32f4ef771625f6e3d2caf37f"), looks := false }, kinds := [], alts := [], laidByText := true, laidKinds := [.data, .data, .data, .data], laidTests := true, laidLooks := .later }
def ChoiceSetsCardSaid : Prop := Claim7.holds Tryd.pinned (.plain (OpenSpec.ofChange choiceSetsSpec)) choiceSetsCard

/-- THE TIED CARD OF 'rootcauselaw14.ChoiceChanges'. -/
def choiceChangesCard : Claim7 := { stood := { row := choiceChangesRow, standIns := [], harness := (true, "5a436acc0dd94339749dcc91d1549f90735c059a32f4ef771625f6e3d2caf37f"), looks := false }, kinds := [], alts := [], laidByText := true, laidKinds := [.data, .data, .data, .data], laidTests := true, laidLooks := .later }
def ChoiceChangesCardSaid : Prop := Claim7.holds Tryd.pinned (.plain (OpenSpec.ofChange choiceChangesSpec)) choiceChangesCard

/-- THE TIED CARD OF 'rootcauselaw14.ChoiceReads'. -/
def choiceReadsCard : Claim7 := { stood := { row := choiceReadsRow, standIns := [], harness := (true, "5a436acc0dd94339749dcc91d1549f90735c059a32f4ef771625f6e3d2caf37f"), looks := false }, kinds := [], alts := [], laidByText := true, laidKinds := [.data, .data, .data, .data], laidTests := true, laidLooks := .later }
def ChoiceReadsCardSaid : Prop := Claim7.holds Tryd.pinned (.plain (OpenSpec.ofChange choiceReadsSpec)) choiceReadsCard

/-- THE SECOND FORM's CARD OF 'rootcauselaw14.ChoiceSets'. -/
def choiceSetsUptoCard : Claim7 := { stood := { row := choiceSetsUptoRow, standIns := [], harness := (true, "5a436acc0dd94339749dcc91d1549f90735c059a32f4ef771625f6e3d2caf37f"), looks := false }, kinds := [], alts := [], laidByText := true, laidKinds := [.data, .data, .data, .data], laidTests := true, laidLooks := .later }
def ChoiceSetsUptoCardSaid : Prop := Claim7.holds Tryd.pinned (.plain (OpenSpec.upto choiceSetsSpec)) choiceSetsUptoCard

/-- THE SECOND FORM's CARD OF 'rootcauselaw14.ChoiceChanges'. -/
def choiceChangesUptoCard : Claim7 := { stood := { row := choiceChangesUptoRow, standIns := [], harness := (true, "5a436acc0dd94339749dcc91d1549f90735c059a32f4ef771625f6e3d2caf37f"), looks := false }, kinds := [], alts := [], laidByText := true, laidKinds := [.data, .data, .data, .data], laidTests := true, laidLooks := .later }
def ChoiceChangesUptoCardSaid : Prop := Claim7.holds Tryd.pinned (.plain (OpenSpec.upto choiceChangesSpec)) choiceChangesUptoCard

/-- THE SECOND FORM's CARD OF 'rootcauselaw14.ChoiceReads'. -/
def choiceReadsUptoCard : Claim7 := { stood := { row := choiceReadsUptoRow, standIns := [], harness := (true, "5a436acc0dd94339749dcc91d1549f90735c059a32f4ef771625f6e3d2caf37f"), looks := false }, kinds := [], alts := [], laidByText := true, laidKinds := [.data, .data, .data, .data], laidTests := true, laidLooks := .later }
def ChoiceReadsUptoCardSaid : Prop := Claim7.holds Tryd.pinned (.plain (OpenSpec.upto choiceReadsSpec)) choiceReadsUptoCard
end Rows
end Go.Proofs.YtolfbnjmkgikdaaDoor
