/-
  DERIVED. GIVEN WITH THE SEED: THE CARDS: each row of YtebfclikfpcibaaDoorRows.lean that lists a variable, with what it lists TIED to the program's text (the seventh form; the later family's looks); each row that meets fmt, with fmt's text TOLD by the authors' own Lean function (tested against real Go, not proved from fmt's source: count such statements apart). THE CARD IS WHAT COUNTS. Prove the row's statement (the work); the ties are given (YtebfclikfpcibaaDoorTie.lean); close each card by the builder's one call (the guide's Derived/Test/ToyasCard.lean, 'card_holds'). Laid BY PROGRAM, IN A SANDBOX (cutbox-door.mjs). By AI agents, Wed Nov 11 2026. No macro, syntax, notation, axiom, sorry.
-/
import Derived.Test.YtebfclikfpcibaaDoorRows
import GoSem.ClaimSeven
namespace Go.Proofs.YtebfclikfpcibaaDoor
namespace Rows

/-- THE TIED CARD OF 'rootcauselaw14.ChoiceChecks'. -/
def choiceChecksCard : Claim7 := { stood := { row := choiceChecksRow, standIns := [], harness := (true, "d5580ec85da2ec737420a40eb0eec2fe8a099b378fe45b6155ada570bab0f803"), looks := false }, kinds := [], alts := [], laidByText := true, laidKinds := [.data, .data, .data, .data], laidTests := true, laidLooks := .later }
def ChoiceChecksCardSaid : Prop := Claim7.holds Tryd.pinned (.plain (OpenSpec.ofChange choiceChecksSpec)) choiceChecksCard

/-- THE TIED CARD OF 'rootcauselaw14.ChoiceOrders'. -/
def choiceOrdersCard : Claim7 := { stood := { row := choiceOrdersRow, standIns := [], harness := (true, "d5580ec85da2ec737420a40eb0eec2fe8a099b378fe45b6155ada570bab0f803"), looks := false }, kinds := [], alts := [], laidByText := true, laidKinds := [.data, .data, .data, .data], laidTests := true, laidLooks := .later }
def ChoiceOrdersCardSaid : Prop := Claim7.holds Tryd.pinned (.plain (OpenSpec.ofChange choiceOrdersSpec)) choiceOrdersCard

/-- THE TIED CARD OF 'rootcauselaw14.ChoiceFull'. -/
def choiceFullCard : Claim7 := { stood := { row := choiceFullRow, standIns := [], harness := (true, "d5580ec85da2ec737420a40eb0eec2fe8a099b378fe45b6155ada570bab0f803"), looks := false }, kinds := [], alts := [], laidByText := true, laidKinds := [.data, .data, .data, .data], laidTests := true, laidLooks := .later }
def ChoiceFullCardSaid : Prop := Claim7.holds Tryd.pinned (.plain (OpenSpec.ofChange choiceFullSpec)) choiceFullCard

/-- THE TIED CARD OF 'rootcauselaw14.ChoiceSets'. -/
def choiceSetsCard : Claim7 := { stood := { row := choiceSetsRow, standIns := [], harness := (true, "d5580ec85da2ec737420a40eb0eec2fe8a099b378fe45b6155ada570bab0f803"), looks := false }, kinds := [], alts := [], laidByText := true, laidKinds := [.data, .data, .data, .data], laidTests := true, laidLooks := .later }
def ChoiceSetsCardSaid : Prop := Claim7.holds Tryd.pinned (.plain (OpenSpec.ofChange choiceSetsSpec)) choiceSetsCard

/-- THE TIED CARD OF 'rootcauselaw14.ChoiceChanges'. -/
def choiceChangesCard : Claim7 := { stood := { row := choiceChangesRow, standIns := [], harness := (true, "d5580ec85da2ec737420a40eb0eec2fe8a099b378fe45b6155ada570bab0f803"), looks := false }, kinds := [], alts := [], laidByText := true, laidKinds := [.data, .data, .data, .data], laidTests := true, laidLooks := .later }
def ChoiceChangesCardSaid : Prop := Claim7.holds Tryd.pinned (.plain (OpenSpec.ofChange choiceChangesSpec)) choiceChangesCard

/-- THE TIED CARD OF 'rootcauselaw14.ChoiceReads'. -/
def choiceReadsCard : Claim7 := { stood := { row := choiceReadsRow, standIns := [], harness := (true, "d5580ec85da2ec737420a40eb0eec2fe8a099b378fe45b6155ada570bab0f803"), looks := false }, kinds := [], alts := [], laidByText := true, laidKinds := [.data, .data, .data, .data], laidTests := true, laidLooks := .later }
def ChoiceReadsCardSaid : Prop := Claim7.holds Tryd.pinned (.plain (OpenSpec.ofChange choiceReadsSpec)) choiceReadsCard

/-- THE SECOND FORM's CARD OF 'rootcauselaw14.ChoiceChecks'. -/
def choiceChecksUptoCard : Claim7 := { stood := { row := choiceChecksUptoRow, standIns := [], harness := (true, "d5580ec85da2ec737420a40eb0eec2fe8a099b378fe45b6155ada570bab0f803"), looks := false }, kinds := [], alts := [], laidByText := true, laidKinds := [.data, .data, .data, .data], laidTests := true, laidLooks := .later }
def ChoiceChecksUptoCardSaid : Prop := Claim7.holds Tryd.pinned (.plain (OpenSpec.upto choiceChecksSpec)) choiceChecksUptoCard

/-- THE SECOND FORM's CARD OF 'rootcauselaw14.ChoiceOrders'. -/
def choiceOrdersUptoCard : Claim7 := { stood := { row := choiceOrdersUptoRow, standIns := [], harness := (true, "d5580ec85da2ec737420a40eb0eec2fe8a099b378fe45b6155ada570bab0f803"), looks := false }, kinds := [], alts := [], laidByText := true, laidKinds := [.data, .data, .data, .data], laidTests := true, laidLooks := .later }
def ChoiceOrdersUptoCardSaid : Prop := Claim7.holds Tryd.pinned (.plain (OpenSpec.upto choiceOrdersSpec)) choiceOrdersUptoCard

/-- THE SECOND FORM's CARD OF 'rootcauselaw14.ChoiceFull'. -/
def choiceFullUptoCard : Claim7 := { stood := { row := choiceFullUptoRow, standIns := [], harness := (true, "d5580ec85da2ec737420a40eb0eec2fe8a099b378fe45b6155ada570bab0f803"), looks := false }, kinds := [], alts := [], laidByText := true, laidKinds := [.data, .data, .data, .data], laidTests := true, laidLooks := .later }
def ChoiceFullUptoCardSaid : Prop := Claim7.holds Tryd.pinned (.plain (OpenSpec.upto choiceFullSpec)) choiceFullUptoCard

/-- THE SECOND FORM's CARD OF 'rootcauselaw14.ChoiceSets'. -/
def choiceSetsUptoCard : Claim7 := { stood := { row := choiceSetsUptoRow, standIns := [], harness := (true, "d5580ec85da2ec737420a40eb0eec2fe8a099b378fe45b6155ada570bab0f803"), looks := false }, kinds := [], alts := [], laidByText := true, laidKinds := [.data, .data, .data, .data], laidTests := true, laidLooks := .later }
def ChoiceSetsUptoCardSaid : Prop := Claim7.holds Tryd.pinned (.plain (OpenSpec.upto choiceSetsSpec)) choiceSetsUptoCard

/-- THE SECOND FORM's CARD OF 'rootcauselaw14.ChoiceChanges'. -/
def choiceChangesUptoCard : Claim7 := { stood := { row := choiceChangesUptoRow, standIns := [], harness := (true, "d5580ec85da2ec737420a40eb0eec2fe8a099b378fe45b6155ada570bab0f803"), looks := false }, kinds := [], alts := [], laidByText := true, laidKinds := [.data, .data, .data, .data], laidTests := true, laidLooks := .later }
def ChoiceChangesUptoCardSaid : Prop := Claim7.holds Tryd.pinned (.plain (OpenSpec.upto choiceChangesSpec)) choiceChangesUptoCard

/-- THE SECOND FORM's CARD OF 'rootcauselaw14.ChoiceReads'. -/
def choiceReadsUptoCard : Claim7 := { stood := { row := choiceReadsUptoRow, standIns := [], harness := (true, "d5580ec85da2ec737420a40eb0eec2fe8a099b378fe45b6155ada570bab0f803"), looks := false }, kinds := [], alts := [], laidByText := true, laidKinds := [.data, .data, .data, .data], laidTests := true, laidLooks := .later }
def ChoiceReadsUptoCardSaid : Prop := Claim7.holds Tryd.pinned (.plain (OpenSpec.upto choiceReadsSpec)) choiceReadsUptoCard
end Rows
end Go.Proofs.YtebfclikfpcibaaDoor
