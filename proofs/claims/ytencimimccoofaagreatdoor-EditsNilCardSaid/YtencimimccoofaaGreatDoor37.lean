/- The card's closed facts: no function of the cut holds a go statement, so the call starts no goroutine. -/
import Derived.Test.YtencimimccoofaaGreatDoorCards
import Derived.KernelRfl
namespace Go.Proofs.YtencimimccoofaaGreatDoor
set_option linter.all false
open Go
theorem no_go_any : Tryz.pinned.checked.prog.funcs.toList.all (fun fn => !fn.goes) = true := by kernel_rfl
theorem goes_none {P : Program} (h : P.funcs.toList.all (fun fn => !fn.goes) = true) (f : FuncId) : P.goes f = false := by
  have h2 : ∀ g : Nat, (P.funcs[g]?).any Func.goes = false := by
    intro g
    cases hg : P.funcs[g]? with
    | none => rfl
    | some fn =>
      have hm : fn ∈ P.funcs.toList := by
        have := Array.mem_of_getElem? hg
        simpa using this
      have := List.all_eq_true.1 h fn hm
      simpa using this
  have h3 : P.funcs.any Func.goes = false := by
    rw [Array.any_eq_false]
    intro i hi
    have := h2 i
    rw [Array.getElem?_eq_getElem hi] at this
    simpa using this
  unfold Program.goes
  simp [h2, h3]
theorem c_goes : false = Rows.editsNilRow.goesBy Tryz.pinned.checked.prog := by
  unfold OpenClaim.goesBy Program.goesAt Program.goesFrom
  cases h : Tryz.pinned.checked.prog.funcNamed Rows.editsNilRow.func with
  | none => rfl
  | some f => rw [Option.any_some, goes_none no_go_any f]; rfl
end Go.Proofs.YtencimimccoofaaGreatDoor
