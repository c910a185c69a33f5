/-
  DERIVED. GIVEN WITH THE SEED: THE CARDS: each row of YtbdipimmpgijaaaGreatDoorRows.lean that lists a variable, with what it lists TIED to the program's text (the seventh form; the later family's looks); each row that meets fmt, with fmt's text TOLD by the authors' own Lean function (tested against real Go, not proved from fmt's source: count such statements apart). THE CARD IS WHAT COUNTS. Prove the row's statement (the work); the ties are given (YtbdipimmpgijaaaGreatDoorTie.lean); close each card by the builder's one call (the guide's Derived/Test/ToyasCard.lean, 'card_holds'). Laid BY PROGRAM, IN A SANDBOX (cutbox-door.mjs). By AI agents, Wed Nov 11 2026. No macro, syntax, notation, axiom, sorry.
-/
import Derived.Test.YtbdipimmpgijaaaGreatDoorRows
import GoSem.ClaimSeven
namespace Go.Proofs.YtbdipimmpgijaaaGreatDoor
namespace Rows

/-- THE TIED CARD OF 'rootcauselaw52.NarrateParses'. -/
def narrateParsesCard : Claim7 := { stood := { row := narrateParsesRow, standIns := [], harness := (true, "b784bfe68713960d60ea50144cc55aca6a1e48825b547aa0e6281c99bdb54545"), looks := true }, kinds := [], alts := [], laidByText := true, laidKinds := [.data, .data, .data, .sentinel, .sentinel, .data, .data, .data, .data, .data, .data], laidTests := true, laidLooks := .later }
def NarrateParsesCardSaid : Prop := Claim7.holds Tryz.pinned (.plain (OpenSpec.ofChange narrateParsesSpec)) narrateParsesCard

/-- THE SECOND FORM's CARD OF 'rootcauselaw52.NarrateParses'. -/
def narrateParsesUptoCard : Claim7 := { stood := { row := narrateParsesUptoRow, standIns := [], harness := (true, "b784bfe68713960d60ea50144cc55aca6a1e48825b547aa0e6281c99bdb54545"), looks := true }, kinds := [], alts := [], laidByText := true, laidKinds := [.data, .data, .data, .sentinel, .sentinel, .data, .data, .data, .data, .data, .data], laidTests := true, laidLooks := .later }
def NarrateParsesUptoCardSaid : Prop := Claim7.holds Tryz.pinned (.plain (OpenSpec.upto narrateParsesSpec)) narrateParsesUptoCard
end Rows
end Go.Proofs.YtbdipimmpgijaaaGreatDoor
