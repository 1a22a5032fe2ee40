/- The row's closed facts. -/
import Derived.Test.YtencimimccoofaaGreatDoorRows
import Derived.Deep.DeepHandedRow
namespace Go.Proofs.YtencimimccoofaaGreatDoor
set_option linter.all false
open Go
theorem k_named : Tryz.pinned.checked.prog.funcNamed Rows.editsNilRow.func = some 3 := by kernel_rfl
theorem k_inst : Tryz.f3.isInstance Tryz.pinned.checked.prog Rows.editsNilRow.origin Rows.editsNilRow.targs := of_decide_eq_true (by kernel_rfl)
theorem k_wrap : Tryz.f3.isWrapper Tryz.pinned.checked.prog Rows.editsNilRow.wrapper Rows.editsNilRow.mainSum := by
  unfold Func.isWrapper; first | (rw [if_pos (by decide +kernel)]; kernel_rfl) | (rw [if_neg (by decide +kernel)]; exact ⟨rfl, rfl⟩)
end Go.Proofs.YtencimimccoofaaGreatDoor
