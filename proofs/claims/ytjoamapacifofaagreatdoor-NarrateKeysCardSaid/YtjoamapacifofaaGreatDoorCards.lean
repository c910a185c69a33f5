/-
  DERIVED. GIVEN WITH THE SEED: THE CARDS: each row of YtjoamapacifofaaGreatDoorRows.lean that lists a variable, with what it lists TIED to the program's text (the seventh form; the later family's looks); each row that meets fmt, with fmt's text TOLD by the authors' own Lean function (tested against real Go, not proved from fmt's source: count such statements apart). THE CARD IS WHAT COUNTS. Prove the row's statement (the work); the ties are given (YtjoamapacifofaaGreatDoorTie.lean); close each card by the builder's one call (the guide's Derived/Test/ToyasCard.lean, 'card_holds'). Laid BY PROGRAM, IN A SANDBOX (cutbox-door.mjs). By AI agents, Wed Nov 11 2026. No macro, syntax, notation, axiom, sorry.
-/
import Derived.Test.YtjoamapacifofaaGreatDoorRows
import GoSem.ClaimSeven
namespace Go.Proofs.YtjoamapacifofaaGreatDoor
namespace Rows

/-- THE TIED CARD OF 'rootcauselaw52.NarrateKeys'. -/
def narrateKeysCard : Claim7 := { stood := { row := narrateKeysRow, standIns := [], harness := (true, "5dc6ee68f73d0abf185c5f4fb363861717216318e82c15a50246006be6021b64"), looks := false }, kinds := [], alts := [], laidByText := true, laidKinds := [.data, .data, .data, .data, .data, .data, .data, .data, .data], laidTests := true, laidLooks := .later }
def NarrateKeysCardSaid : Prop := Claim7.holds Tryz.pinned (.plain (OpenSpec.ofChange narrateKeysSpec)) narrateKeysCard

/-- THE SECOND FORM's CARD OF 'rootcauselaw52.NarrateKeys'. -/
def narrateKeysUptoCard : Claim7 := { stood := { row := narrateKeysUptoRow, standIns := [], harness := (true, "5dc6ee68f73d0abf185c5f4fb363861717216318e82c15a50246006be6021b64"), looks := false }, kinds := [], alts := [], laidByText := true, laidKinds := [.data, .data, .data, .data, .data, .data, .data, .data, .data], laidTests := true, laidLooks := .later }
def NarrateKeysUptoCardSaid : Prop := Claim7.holds Tryz.pinned (.plain (OpenSpec.upto narrateKeysSpec)) narrateKeysUptoCard
end Rows
end Go.Proofs.YtjoamapacifofaaGreatDoor
