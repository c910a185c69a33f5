import Derived.Test.YtjoamapacifofaaGreatDoorZ0
set_option maxRecDepth 1000000
set_option maxHeartbeats 32000000
set_option linter.all false
namespace Go.Proofs.YtjoamapacifofaaGreatDoor
open RowKit Go.Proofs.Tryz kT Maps nu pG ChangeShapes WideShapes ChangeAt
def narrateKeys.Lv:false=Rows.narrateKeysRow.goesBy Tryz.pinned.checked.prog:=by kernel_rfl
