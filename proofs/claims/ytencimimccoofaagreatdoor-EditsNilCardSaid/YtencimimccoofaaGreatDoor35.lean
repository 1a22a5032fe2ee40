/- The card's closed facts: the program's looks. -/
import Derived.Test.YtencimimccoofaaGreatDoorCards
namespace Go.Proofs.YtencimimccoofaaGreatDoor
set_option linter.all false
open Go
theorem c_looks : true = Tryz.pinned.checked.prog.looks [] := by kernel_rfl
theorem c_want22 : Tryz.prog.wantsStandIn 22 = false := by kernel_rfl
theorem c_want24 : Tryz.prog.wantsStandIn 24 = false := by kernel_rfl
end Go.Proofs.YtencimimccoofaaGreatDoor
