import Derived.Test.YtidmdcckbdmblaaGreatDoorZ0
set_option maxRecDepth 1000000
set_option maxHeartbeats 32000000
set_option linter.all false
namespace Go.Proofs.YtidmdcckbdmblaaGreatDoor.narrateNil
open Go.ChangeShapes Go.WideShapes Go.ChangeAt Go.RowKit Go.Proofs.Tryz
theorem GZ:false=Rows.narrateNilRow.goesBy Tryz.pinned.checked.prog:=by kernel_rfl
end Go.Proofs.YtidmdcckbdmblaaGreatDoor.narrateNil
