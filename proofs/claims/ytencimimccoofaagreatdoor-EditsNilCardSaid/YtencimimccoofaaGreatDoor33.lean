/- The tie: the rows of the places. -/
import Derived.Test.YtencimimccoofaaGreatDoor31
namespace Go.Proofs.YtencimimccoofaaGreatDoor.Tied
open Go
theorem f10 (os : Os) (tape : Tape) : (DataW.laidRun Tryz.prog (varsWorld Tryz.prog 400 (varsId Tryz.prog) os tape).memory 8 (tail.map (·.1))).map (fun x => laidRowsB Tryz.prog (varsWorld Tryz.prog 400 (varsId Tryz.prog) os tape).memory x.2) = some true := by kernel_rfl
end Go.Proofs.YtencimimccoofaaGreatDoor.Tied
