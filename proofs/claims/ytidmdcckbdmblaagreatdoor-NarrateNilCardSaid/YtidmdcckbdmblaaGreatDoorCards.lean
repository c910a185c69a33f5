/-
  DERIVED. GIVEN WITH THE SEED: THE CARDS: each row of YtidmdcckbdmblaaGreatDoorRows.lean that lists a variable, with what it lists TIED to the program's text (the seventh form; the later family's looks); each row that meets fmt, with fmt's text TOLD by the authors' own Lean function (tested against real Go, not proved from fmt's source: count such statements apart). THE CARD IS WHAT COUNTS. Prove the row's statement (the work); the ties are given (YtidmdcckbdmblaaGreatDoorTie.lean); close each card by the builder's one call (the guide's Derived/Test/ToyasCard.lean, 'card_holds'). Laid BY PROGRAM, IN A SANDBOX (cutbox-door.mjs). By AI agents, Wed Nov 11 2026. No macro, syntax, notation, axiom, sorry.
-/
import Derived.Test.YtidmdcckbdmblaaGreatDoorRows
import GoSem.ClaimSeven
namespace Go.Proofs.YtidmdcckbdmblaaGreatDoor
namespace Rows

/-- THE TIED CARD OF 'rootcauselaw52.NarrateDiffers'. -/
def narrateDiffersCard : Claim7 := { stood := { row := narrateDiffersRow, standIns := [], harness := (true, "5fb049cb46a0dd33a797109f430b9eb0b3d76d5867d6a3b8910749d639f79288"), looks := true }, kinds := [], alts := [], laidByText := true, laidKinds := [.data, .data, .data, .data, .data, .data, .data, .data, .data], laidTests := true, laidLooks := .later }
def NarrateDiffersCardSaid : Prop := Claim7.holds Tryz.pinned (.plain (OpenSpec.ofChange narrateDiffersSpec)) narrateDiffersCard

/-- THE TIED CARD OF 'rootcauselaw52.NarrateKeys'. -/
def narrateKeysCard : Claim7 := { stood := { row := narrateKeysRow, standIns := [], harness := (true, "5fb049cb46a0dd33a797109f430b9eb0b3d76d5867d6a3b8910749d639f79288"), looks := true }, kinds := [], alts := [], laidByText := true, laidKinds := [.data, .data, .data, .data, .data, .data, .data, .data, .data], laidTests := true, laidLooks := .later }
def NarrateKeysCardSaid : Prop := Claim7.holds Tryz.pinned (.plain (OpenSpec.ofChange narrateKeysSpec)) narrateKeysCard

/-- THE TIED CARD OF 'rootcauselaw52.NarrateEvents'. -/
def narrateEventsCard : Claim7 := { stood := { row := narrateEventsRow, standIns := [], harness := (true, "5fb049cb46a0dd33a797109f430b9eb0b3d76d5867d6a3b8910749d639f79288"), looks := true }, kinds := [], alts := [], laidByText := true, laidKinds := [.data, .data, .data, .sentinel, .sentinel, .data, .data, .data, .data, .data, .data], laidTests := true, laidLooks := .later }
def NarrateEventsCardSaid : Prop := Claim7.holds Tryz.pinned (.plain (OpenSpec.ofChange narrateEventsSpec)) narrateEventsCard

/-- THE TIED CARD OF 'rootcauselaw52.NarrateParses'. -/
def narrateParsesCard : Claim7 := { stood := { row := narrateParsesRow, standIns := [], harness := (true, "5fb049cb46a0dd33a797109f430b9eb0b3d76d5867d6a3b8910749d639f79288"), looks := true }, kinds := [], alts := [], laidByText := true, laidKinds := [.data, .data, .data, .sentinel, .sentinel, .data, .data, .data, .data, .data, .data], laidTests := true, laidLooks := .later }
def NarrateParsesCardSaid : Prop := Claim7.holds Tryz.pinned (.plain (OpenSpec.ofChange narrateParsesSpec)) narrateParsesCard

/-- THE TIED CARD OF 'rootcauselaw52.NarrateNil'. -/
def narrateNilCard : Claim7 := { stood := { row := narrateNilRow, standIns := [], harness := (true, "5fb049cb46a0dd33a797109f430b9eb0b3d76d5867d6a3b8910749d639f79288"), looks := true }, kinds := [], alts := [], laidByText := true, laidKinds := [.data, .data, .data, .data, .data, .data, .data, .data], laidTests := true, laidLooks := .later }
def NarrateNilCardSaid : Prop := Claim7.holds Tryz.pinned (.plain (OpenSpec.ofChange narrateNilSpec)) narrateNilCard

/-- THE SECOND FORM's CARD OF 'rootcauselaw52.NarrateDiffers'. -/
def narrateDiffersUptoCard : Claim7 := { stood := { row := narrateDiffersUptoRow, standIns := [], harness := (true, "5fb049cb46a0dd33a797109f430b9eb0b3d76d5867d6a3b8910749d639f79288"), looks := true }, kinds := [], alts := [], laidByText := true, laidKinds := [.data, .data, .data, .data, .data, .data, .data, .data, .data], laidTests := true, laidLooks := .later }
def NarrateDiffersUptoCardSaid : Prop := Claim7.holds Tryz.pinned (.plain (OpenSpec.upto narrateDiffersSpec)) narrateDiffersUptoCard

/-- THE SECOND FORM's CARD OF 'rootcauselaw52.NarrateKeys'. -/
def narrateKeysUptoCard : Claim7 := { stood := { row := narrateKeysUptoRow, standIns := [], harness := (true, "5fb049cb46a0dd33a797109f430b9eb0b3d76d5867d6a3b8910749d639f79288"), looks := true }, kinds := [], alts := [], laidByText := true, laidKinds := [.data, .data, .data, .data, .data, .data, .data, .data, .data], laidTests := true, laidLooks := .later }
def NarrateKeysUptoCardSaid : Prop := Claim7.holds Tryz.pinned (.plain (OpenSpec.upto narrateKeysSpec)) narrateKeysUptoCard

/-- THE SECOND FORM's CARD OF 'rootcauselaw52.NarrateEvents'. -/
def narrateEventsUptoCard : Claim7 := { stood := { row := narrateEventsUptoRow, standIns := [], harness := (true, "5fb049cb46a0dd33a797109f430b9eb0b3d76d5867d6a3b8910749d639f79288"), looks := true }, kinds := [], alts := [], laidByText := true, laidKinds := [.data, .data, .data, .sentinel, .sentinel, .data, .data, .data, .data, .data, .data], laidTests := true, laidLooks := .later }
def NarrateEventsUptoCardSaid : Prop := Claim7.holds Tryz.pinned (.plain (OpenSpec.upto narrateEventsSpec)) narrateEventsUptoCard

/-- THE SECOND FORM's CARD OF 'rootcauselaw52.NarrateParses'. -/
def narrateParsesUptoCard : Claim7 := { stood := { row := narrateParsesUptoRow, standIns := [], harness := (true, "5fb049cb46a0dd33a797109f430b9eb0b3d76d5867d6a3b8910749d639f79288"), looks := true }, kinds := [], alts := [], laidByText := true, laidKinds := [.data, .data, .data, .sentinel, .sentinel, .data, .data, .data, .data, .data, .data], laidTests := true, laidLooks := .later }
def NarrateParsesUptoCardSaid : Prop := Claim7.holds Tryz.pinned (.plain (OpenSpec.upto narrateParsesSpec)) narrateParsesUptoCard

/-- THE SECOND FORM's CARD OF 'rootcauselaw52.NarrateNil'. -/
def narrateNilUptoCard : Claim7 := { stood := { row := narrateNilUptoRow, standIns := [], harness := (true, "5fb049cb46a0dd33a797109f430b9eb0b3d76d5867d6a3b8910749d639f79288"), looks := true }, kinds := [], alts := [], laidByText := true, laidKinds := [.data, .data, .data, .data, .data, .data, .data, .data], laidTests := true, laidLooks := .later }
def NarrateNilUptoCardSaid : Prop := Claim7.holds Tryz.pinned (.plain (OpenSpec.upto narrateNilSpec)) narrateNilUptoCard
end Rows
end Go.Proofs.YtidmdcckbdmblaaGreatDoor
