import Derived.Test.YtbdipimmpgijaaaGreatDoorZ0
set_option maxRecDepth 1000000
set_option maxHeartbeats 32000000
set_option linter.all false
namespace Go.Proofs.YtbdipimmpgijaaaGreatDoor
open RowKit Go.Proofs.Tryz lH Maps oa qR ChangeShapes WideShapes ChangeAt
def narrateParses.M3:false=Rows.narrateParsesUptoRow.goesBy Tryz.pinned.checked.prog:=by kernel_rfl
