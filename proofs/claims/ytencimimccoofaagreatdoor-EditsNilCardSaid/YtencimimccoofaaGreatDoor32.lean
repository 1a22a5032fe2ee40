/- The tie: that no place is met twice. -/
import Derived.Test.YtencimimccoofaaGreatDoor31
namespace Go.Proofs.YtencimimccoofaaGreatDoor.Tied
open Go
theorem f9 (os : Os) (tape : Tape) : (DataW.laidRun Tryz.prog (varsWorld Tryz.prog 400 (varsId Tryz.prog) os tape).memory 8 (tail.map (·.1))).map (fun x => nodupB (x.2.map MemPlace.codeOf)) = some true := by kernel_rfl
end Go.Proofs.YtencimimccoofaaGreatDoor.Tied
