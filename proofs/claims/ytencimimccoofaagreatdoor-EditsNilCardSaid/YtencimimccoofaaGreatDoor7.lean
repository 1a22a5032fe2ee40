/- Sorting nothing; links of no cell. -/
import Derived.Test.YtencimimccoofaaGreatDoor6
import Derived.Test.YtencimimccoofaaGreatDoor5b
namespace Go.Proofs.YtencimimccoofaaGreatDoor
open Go.RowKit

set_option maxRecDepth 20000 in
theorem bits_Len_0 (w : World) : Calls Tryz.prog 101 #[.int .u64 0] w fun e w' => e = .returned (.int .i64 0) ∧ w = w' := by
  go_enter Tryz.func101, Tryz.ntmps101
  go_wp2
  go_ret
  exact ⟨by kernel_rfl, rfl⟩

set_option maxRecDepth 20000 in
theorem insertionSort_nil (w : World) (v : Value) : Calls Tryz.prog 132 #[.slice none 0 0, .int .i64 0, .int .i64 0, v] w fun e w' => e = .returned (.tuple #[]) ∧ w = w' := by
  go_enter Tryz.func132, Tryz.ntmps132
  go_wp2
  refine wp_loop_rounds 1 ?_
  rw [rounds_succ]
  go_wp2
  go_end0
  exact ⟨rfl, rfl⟩

set_option maxHeartbeats 800000 in
set_option maxRecDepth 20000 in
theorem pdqsort_nil (w : World) (v : Value) : Calls Tryz.prog 100 #[.slice none 0 0, .int .i64 0, .int .i64 0, .int .i64 0, v] w fun e w' => e = .returned (.tuple #[]) ∧ w = w' := by
  go_enter Tryz.func100, Tryz.ntmps100
  go_wp2
  refine wp_loop_rounds 1 ?_
  rw [rounds_succ]
  go_wp2_with (go_at_call 132; refine (insertionSort_nil _ _).mono ?_; rintro e w' ⟨rfl, rfl⟩)
  exact bodyPost_ret (results_none rfl _ _ _) rfl ⟨rfl, rfl⟩

theorem SortFunc_nil (w : World) (v : Value) : Calls Tryz.prog 68 #[.slice none 0 0, v] w fun e w' => e = .returned (.tuple #[]) ∧ w = w' := by
  go_enter Tryz.func68, Tryz.ntmps68
  go_wp2_with (first | (go_at_call 101; refine (bits_Len_0 _).mono ?_; rintro e w' ⟨rfl, rfl⟩) | (go_at_call 100; refine (pdqsort_nil _ _).mono ?_; rintro e w' ⟨rfl, rfl⟩))
  go_end0
  exact ⟨rfl, rfl⟩

theorem AddrKeys_nil : AddrKeys #[] := by intro e he; simp at he
theorem lookE_nil (c r : Int) : lookE #[] c r = none := rfl

/-- the cells that are set, where none is -/
theorem links_set_nil (l ml : Nat) {ck : Nat} (w : World) (hg : w.cell? ⟨l, 0, none⟩ = some (.map (some ml))) (hm : w.mapAt ml = some (#[], ck)) (hml : w.oldB ml = true) :
    Calls Tryz.prog 62 #[.pointer (some ⟨l, 0, none⟩)] w fun e w' => e = .returned (.slice none 0 0) ∧ Below w.heap.size w w' := by
  have hn : ∀ ty, (Instr.next (.pointer (some ⟨w.heap.size, 0, none⟩)) false ty).run Tryz.prog (w.alloc (.mapIter (some ml) ck #[] ck)) = .ok (.tuple #[.bool false]) (w.alloc (.mapIter (some ml) ck #[] ck)) :=
    fun ty => run_next_over (m := ml) (es := #[]) (ck := ck) (s := ck) (seen := #[]) (c := ck) (by go_simp) (by go_simp) (by simp) rfl ty
  go_enter Tryz.func62, Tryz.ntmps62
  go_wp2_with (go_at_call 68; refine (SortFunc_nil _ _).mono ?_; rintro e w' ⟨rfl, rfl⟩)
  refine wp_loop_rounds 1 ?_
  rw [rounds_succ]
  go_wp2_with (go_at_call 68; refine (SortFunc_nil _ _).mono ?_; rintro e w' ⟨rfl, rfl⟩)
  go_ret
  exact ⟨rfl, (by repeat (first | (with_reducible exact Below.refl _ _) | (with_reducible refine Below.drew ?_) | (with_reducible refine below_drewN ?_ _) | (with_reducible refine below_ext _ _ _ ?_ ?_) | (with_reducible refine Below.alloc ?_ ?_ _) | (with_reducible refine Below.setCell ?_ ?_ _) | (with_reducible refine below_putMap ?_ ?_ _ _) | assumption | (focus (simp; done)) | (focus (simp; omega)) | (focus omega) | refine below_tr (by assumption) (by simp <;> omega) ?_))⟩
end Go.Proofs.YtencimimccoofaaGreatDoor
