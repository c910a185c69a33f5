import Derived.Test.YtjoamapacifofaaGreatDoorZ23
set_option maxRecDepth 1000000
set_option maxHeartbeats 32000000
set_option linter.all false
namespace Go.Proofs.YtjoamapacifofaaGreatDoor
open RowKit Go.Proofs.Tryz kT Maps nu pG ChangeShapes WideShapes ChangeAt
def narrateKeys.H6(a:Os):laidMet prog Rows.narrateKeysRow.laid ((qD a).forCall (λ_ _=>0) ⟨#[],#[.agg #[.int .u8 0,.slice none 0 0,.slice none 0 0],.agg #[.int .u8 0,.int .i64 0,.int .i64 0,.int .i64 0],.agg #[.int .i64 0,.int .i64 0,.int .i64 0]],[]⟩).memory:=
 laidMet_of_run' 8 (by kernel_rfl) (by kernel_rfl)
