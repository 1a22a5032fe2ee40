/- The card's closed facts: the row's form, the harness. -/
import Derived.Test.YtencimimccoofaaGreatDoorCards
import Derived.SevenTiedAt
namespace Go.Proofs.YtencimimccoofaaGreatDoor
set_option linter.all false
open Go
theorem c_wf : Rows.editsNilRow.wfByText (OpenSpec.ofChange Rows.editsNilSpec) = true := by kernel_rfl
theorem c_main : Tryz.pinned.checked.prog.mainIs = some (true, "9cefa8d9be6576f2e98325a075707b54723c09a263e4d488fddcc7fa6ffd1584".toList) := by kernel_rfl
end Go.Proofs.YtencimimccoofaaGreatDoor
