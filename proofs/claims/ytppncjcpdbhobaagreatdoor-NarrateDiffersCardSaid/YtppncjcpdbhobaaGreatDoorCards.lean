/-
  DERIVED. GIVEN WITH THE SEED: THE CARDS: each row of YtppncjcpdbhobaaGreatDoorRows.lean that lists a variable, with what it lists TIED to the program's text (the seventh form; the later family's looks); each row that meets fmt, with fmt's text TOLD by the authors' own Lean function (tested against real Go, not proved from fmt's source: count such statements apart). THE CARD IS WHAT COUNTS. Prove the row's statement (the work); the ties are given (YtppncjcpdbhobaaGreatDoorTie.lean); close each card by the builder's one call (the guide's Derived/Test/ToyasCard.lean, 'card_holds'). Laid BY PROGRAM, IN A SANDBOX (cutbox-door.mjs). By AI agents, Wed Nov 11 2026. No macro, syntax, notation, axiom, sorry.
-/
import Derived.Test.YtppncjcpdbhobaaGreatDoorRows
import GoSem.ClaimSeven
namespace Go.Proofs.YtppncjcpdbhobaaGreatDoor
namespace Rows

/-- THE TIED CARD OF 'rootcauselaw52.NarrateDiffers'. -/
def narrateDiffersCard : Claim7 := { stood := { row := narrateDiffersRow, standIns := [], harness := (true, "f000001b629cb8171ee774a60f9293679cdd980feb6a87a51742dbb479b5caea"), looks := false }, kinds := [], alts := [], laidByText := true, laidKinds := [.data, .data, .data, .data, .data, .data, .data, .data, .data], laidTests := true, laidLooks := .later }
def NarrateDiffersCardSaid : Prop := Claim7.holds Tryz.pinned (.plain (OpenSpec.ofChange narrateDiffersSpec)) narrateDiffersCard

/-- THE SECOND FORM's CARD OF 'rootcauselaw52.NarrateDiffers'. -/
def narrateDiffersUptoCard : Claim7 := { stood := { row := narrateDiffersUptoRow, standIns := [], harness := (true, "f000001b629cb8171ee774a60f9293679cdd980feb6a87a51742dbb479b5caea"), looks := false }, kinds := [], alts := [], laidByText := true, laidKinds := [.data, .data, .data, .data, .data, .data, .data, .data, .data], laidTests := true, laidLooks := .later }
def NarrateDiffersUptoCardSaid : Prop := Claim7.holds Tryz.pinned (.plain (OpenSpec.upto narrateDiffersSpec)) narrateDiffersUptoCard
end Rows
end Go.Proofs.YtppncjcpdbhobaaGreatDoor
