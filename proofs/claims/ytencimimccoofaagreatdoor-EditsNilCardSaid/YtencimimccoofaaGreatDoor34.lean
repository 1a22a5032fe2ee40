/- EditsNil: of no book: the card. For every input the law answers true and its arguments read as before; conditions: the listed package variables hold what the program's text lays, which the tie shows. -/
import Derived.Test.YtencimimccoofaaGreatDoor30
import Derived.Test.YtencimimccoofaaGreatDoor30a
import Derived.Test.YtencimimccoofaaGreatDoor30b
import Derived.Test.YtencimimccoofaaGreatDoor31
import Derived.Test.YtencimimccoofaaGreatDoor32
import Derived.Test.YtencimimccoofaaGreatDoor33
import Derived.Test.YtencimimccoofaaGreatDoor35
import Derived.Test.YtencimimccoofaaGreatDoor36
import Derived.Test.YtencimimccoofaaGreatDoor37
import Derived.Test.YtencimimccoofaaGreatDoorCards
import Derived.SevenTiedAt
namespace Go.Proofs.YtencimimccoofaaGreatDoor
set_option linter.all false
open Go
namespace Tied
theorem nodup_and {P : Program} {w : World} {X : Option (List (String × DataW Unit) × List MemPlace)} (hn : X.map (fun x => nodupB (x.2.map MemPlace.codeOf)) = some true) (hr : X.map (fun x => laidRowsB P w x.2) = some true) :
    X.map (fun x => decide x.2.Nodup && laidRowsB P w x.2) = some true := by
  cases X with
  | none => cases hn
  | some x =>
    simp only [Option.map_some, Option.some.injEq] at hn hr ⊢
    rw [hr, decide_eq_true (nodup_of_code hn)]
    rfl
theorem tie : Tryz.prog.laidByTextLater tail [.data, .data, .data, .data, .sentinel, .sentinel, .data, .data, .data, .data] true :=
  Program.laidByTextLater_by_run 400 8 f1 f2 f3 f4 f5 f6 f7 f8 (fun os tape => nodup_and (f9 os tape) (f10 os tape)) (by kernel_rfl)
theorem pin_first : Tryz.pinned.checked.prog.pinnedFits "unicode/utf8.first" = true := by kernel_rfl
theorem noOwn : Tryz.pinned.checked.prog.headLifts.contains "ownunsafe" = false := by kernel_rfl
theorem fits : Tryz.pinned.checked.prog.listedFits (("unicode/utf8.first", Rows.laid_unicode_utf8_first) :: tail) = true := by
  unfold Program.listedFits
  rw [noOwn]
  kernel_rfl
theorem row_tie : Rows.editsNilRow.laidByTextAt .later Tryz.pinned [.pinned, .data, .data, .data, .data, .sentinel, .sentinel, .data, .data, .data, .data] true :=
  OpenClaim.laidByTextAt_pinned rfl rfl tie rfl rfl rfl rfl (fun y hy _e => by
    simp only [Rows.editsNilRow, List.zip_cons_cons, List.zip_nil_right, List.mem_cons, List.mem_nil_iff, or_false] at hy
    rcases hy with rfl | rfl | rfl | rfl | rfl | rfl | rfl | rfl | rfl | rfl | rfl
    · exact ⟨pin_first, by kernel_rfl⟩
    all_goals cases _e) fits
end Tied

theorem said : Rows.EditsNilSaid :=
  OpenClaim.holds_of_cond 3 Tryz.f3 rfl rfl rfl rfl rfl rfl rfl ⟨rfl, rfl, rfl, rfl, rfl⟩ rfl rfl rfl rfl rfl k_named Tryz.func3 k_closed k_inst k_wrap
    (fun os started H enc _ F => by rw [OpenClaim.pre_eq_preRow]; exact lifted os started H enc F)

theorem plain (f : FuncId) (fn : Func) (hf : Tryz.pinned.checked.prog.funcNamed Rows.editsNilRow.func = some f) (hfn : Tryz.pinned.checked.prog.funcs[f]? = some fn) :
    true = Tryz.pinned.checked.prog.looks [] ∧ ∀ (j : Nat) t, fn.params[j]? = some t → Tryz.pinned.checked.prog.wantsStandIn t = false := by
  obtain rfl : f = 3 := Option.some.inj (k_named.symm.trans hf) |>.symm
  obtain rfl : fn = Tryz.f3 := (Option.some.inj (Tryz.func3.symm.trans hfn)).symm
  refine ⟨c_looks, fun j t ht => ?_⟩
  rw [Tryz.params3] at ht
  have h2 : t = 22 ∨ t = 24 := by simpa using Array.mem_of_getElem? ht
  rcases h2 with rfl | rfl
  · exact c_want22
  · exact c_want24

/-- the card -/
theorem editsNil_card : Rows.EditsNilCardSaid :=
  Claim7.holds_tied_plain_at .later [] _ _ _ _ said (fun _ h => by cases h) c_wf (fun _ h => by cases h) Tied.row_tie rfl ⟨rfl, rfl⟩ c_main rfl plain c_goes
end Go.Proofs.YtencimimccoofaaGreatDoor
