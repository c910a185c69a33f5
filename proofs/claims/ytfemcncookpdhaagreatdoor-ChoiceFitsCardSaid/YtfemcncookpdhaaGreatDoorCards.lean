/-
  DERIVED. GIVEN WITH THE SEED: THE CARDS: each row of YtfemcncookpdhaaGreatDoorRows.lean that lists a variable, with what it lists TIED to the program's text (the seventh form; the later family's looks); each row that meets fmt, with fmt's text TOLD by the authors' own Lean function (tested against real Go, not proved from fmt's source: count such statements apart). THE CARD IS WHAT COUNTS. Prove the row's statement (the work); the ties are given (YtfemcncookpdhaaGreatDoorTie.lean); close each card by the builder's one call (the guide's Derived/Test/ToyasCard.lean, 'card_holds'). Laid BY PROGRAM, IN A SANDBOX (cutbox-door.mjs). By AI agents, Wed Nov 11 2026. No macro, syntax, notation, axiom, sorry.
-/
import Derived.Test.YtfemcncookpdhaaGreatDoorRows
import GoSem.ClaimSeven
namespace Go.Proofs.YtfemcncookpdhaaGreatDoor
namespace Rows

/-- THE TIED CARD OF 'rootcauselaw14.ChoiceFits'. -/
def choiceFitsCard : Claim7 := { stood := { row := choiceFitsRow, standIns := [], harness := (true, "5a85c53356ced4b3c4bf3cd966c5ffdeafa0d2f1230b5631ea0e283895569310"), looks := false }, kinds := [], alts := [], laidByText := true, laidKinds := [.data, .data, .data, .data, .data, .data, .data, .data, .data], laidTests := true, laidLooks := .later }
def ChoiceFitsCardSaid : Prop := Claim7.holds Tryz.pinned (.plain (OpenSpec.ofChange choiceFitsSpec)) choiceFitsCard

/-- THE SECOND FORM's CARD OF 'rootcauselaw14.ChoiceFits'. -/
def choiceFitsUptoCard : Claim7 := { stood := { row := choiceFitsUptoRow, standIns := [], harness := (true, "5a85c53356ced4b3c4bf3cd966c5ffdeafa0d2f1230b5631ea0e283895569310"), looks := false }, kinds := [], alts := [], laidByText := true, laidKinds := [.data, .data, .data, .data, .data, .data, .data, .data, .data], laidTests := true, laidLooks := .later }
def ChoiceFitsUptoCardSaid : Prop := Claim7.holds Tryz.pinned (.plain (OpenSpec.upto choiceFitsSpec)) choiceFitsUptoCard
end Rows
end Go.Proofs.YtfemcncookpdhaaGreatDoor
