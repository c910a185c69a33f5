import Derived.Test.YtppncjcpdbhobaaGreatDoorZ0
set_option maxRecDepth 1000000
set_option maxHeartbeats 32000000
set_option linter.all false
namespace Go.Proofs.YtppncjcpdbhobaaGreatDoor
open RowKit Go.Proofs.Tryz lI Maps oZ qQ ChangeShapes WideShapes ChangeAt
def narrateDiffers.Nf:false=Rows.narrateDiffersRow.goesBy Tryz.pinned.checked.prog:=by kernel_rfl
