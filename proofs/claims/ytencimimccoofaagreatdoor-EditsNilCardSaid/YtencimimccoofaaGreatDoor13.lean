/- A sheet of plain contents: working out one cell. -/
import Derived.Test.YtencimimccoofaaGreatDoor12
namespace Go.Proofs.YtencimimccoofaaGreatDoor
set_option linter.all false
open Go.RowKit

set_option maxRecDepth 20000 in
theorem bits_Len_1 (w : World) : Calls Tryz.prog 101 #[.int .u64 1] w fun e w' => e = .returned (.int .i64 1) ∧ w = w' := by
  go_enter Tryz.func101, Tryz.ntmps101
  go_wp2
  go_ret
  exact ⟨by kernel_rfl, rfl⟩

set_option maxRecDepth 20000 in
theorem insertionSort_one (n cp : Nat) (w : World) (v : Value) : Calls Tryz.prog 132 #[.slice (some ⟨n, 0, none⟩) 1 cp, .int .i64 0, .int .i64 1, v] w fun e w' => e = .returned (.tuple #[]) ∧ w = w' := by
  go_enter Tryz.func132, Tryz.ntmps132
  go_wp2
  refine wp_loop_rounds 1 ?_
  rw [rounds_succ]
  go_wp2
  go_end0
  exact ⟨rfl, rfl⟩

set_option maxHeartbeats 800000 in
set_option maxRecDepth 20000 in
theorem pdqsort_one (n cp : Nat) (w : World) (v : Value) : Calls Tryz.prog 100 #[.slice (some ⟨n, 0, none⟩) 1 cp, .int .i64 0, .int .i64 1, .int .i64 1, v] w fun e w' => e = .returned (.tuple #[]) ∧ w = w' := by
  go_enter Tryz.func100, Tryz.ntmps100
  go_wp2
  refine wp_loop_rounds 1 ?_
  rw [rounds_succ]
  go_wp2_with (go_at_call 132; refine (insertionSort_one _ _ _ _).mono ?_; rintro e w' ⟨rfl, rfl⟩)
  exact bodyPost_ret (results_none rfl _ _ _) rfl ⟨rfl, rfl⟩

theorem SortFunc_one (n cp : Nat) (w : World) (v : Value) : Calls Tryz.prog 68 #[.slice (some ⟨n, 0, none⟩) 1 cp, v] w fun e w' => e = .returned (.tuple #[]) ∧ w = w' := by
  go_enter Tryz.func68, Tryz.ntmps68
  go_wp2_with (first | (go_at_call 101; refine (bits_Len_1 _).mono ?_; rintro e w' ⟨rfl, rfl⟩) | (go_at_call 100; refine (pdqsort_one _ _ _ _).mono ?_; rintro e w' ⟨rfl, rfl⟩))
  go_end0
  exact ⟨rfl, rfl⟩

theorem Grow_one (w : World) : Calls Tryz.prog 96 #[.slice none 0 0, .int .i64 1] w
    fun e w' => e = .returned (.slice (some ⟨w.heap.size, 0, none⟩) 0 (grownCap w 1 0 24)) ∧ w' = w.drew.alloc (.cells (padded zAddr (Builtin.zeroCells zAddr (grownCap w 1 0 24 - 1))) 24) := by
  have h1 : 1 ≤ grownCap w 1 0 24 := grownCap_ge w 1 0 _
  go_enter Tryz.func96, Tryz.ntmps96
  go_wp2
  go_ret
  exact ⟨rfl, rfl⟩

set_option maxHeartbeats 800000 in
set_option maxRecDepth 20000 in
theorem Concat_one (Q B cp cq : Nat) (c r : Int) (w : World) (hq0 : w.cell? ⟨Q, 0, none⟩ = some (.slice (some ⟨B, 0, none⟩) 1 cp)) (hq1 : w.cell? ⟨Q, 1, none⟩ = some (.slice none 0 0)) (hQ : w.oldB Q = true)
    (h0 : w.hasC B 2 = true) (h1 : w.cellsAt B 0 2 = #[.int .i64 c, .int .i64 r]) (hB : w.oldB B = true) :
    Calls Tryz.prog 66 #[.slice (some ⟨Q, 0, none⟩) 2 cq] w
    fun e w' => e = .returned (.slice (some ⟨w.heap.size, 0, none⟩) 1 (grownCap w 1 0 24)) ∧ w' = w.drew.alloc (.cells (padded #[.int .i64 c, .int .i64 r] (Builtin.zeroCells zAddr (grownCap w 1 0 24 - 1))) 24) := by
  have hg : 1 ≤ grownCap w 1 0 24 := grownCap_ge w 1 0 _
  go_enter Tryz.func66, Tryz.ntmps66
  go_wp2
  refine wp_loop_rounds 3 ?_
  rw [rounds_succ]
  go_wp2
  rw [rounds_succ]
  go_wp2
  rw [rounds_succ]
  go_wp2_with (go_at_call 96; refine (Grow_one _).mono ?_; rintro e w' ⟨rfl, rfl⟩)
  refine wp_loop_rounds 3 ?_
  rw [rounds_succ]
  go_wp2
  rw [rounds_succ]
  go_wp2
  rw [rounds_succ]
  go_wp2
  go_ret
  exact ⟨rfl, rfl⟩
end Go.Proofs.YtencimimccoofaaGreatDoor
