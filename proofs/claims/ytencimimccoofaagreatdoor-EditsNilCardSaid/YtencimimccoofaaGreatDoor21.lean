/- Rows of contents: one step on, one back. -/
import Derived.Test.YtencimimccoofaaGreatDoor20
namespace Go.Proofs.YtencimimccoofaaGreatDoor
set_option linter.all false
open Go.RowKit Go.Shelf
attribute [local go_sem ↓] Go.wp_at_zero Go.wp_at_succ

theorem append_empty_Grid' (ty : TypeId) (W : World) (a : Addr) (n c : Nat) (h : n ≤ c) :
    (Builtin.append_ #[56, 56] ty #[.slice (some a) n c, .slice none 0 0]).run Tryz.prog W = .ok (.slice (some a) n c) W := by
  have hi := in_Grid
  cases hh : Tryz.prog.info? 31 with
  | none => rw [hh] at hi; simp at hi
  | some i => simp [Builtin.append_, run_underlying un_SGrid, sizeOf, typeInfo, hh, Builtin.lenOf, Builtin.firstCells, h, storeCells]
@[go_sem] theorem append_empty_Grid (ty : TypeId) (W : World) (a : Addr) (n c : Nat) (h : n ≤ c) :
    appS #[56, 56] ty #[.slice (some a) n c, .slice none 0 0] W = .ok (.slice (some a) n c) W := append_empty_Grid' ty W a n c h
theorem append_empty2_Grid' (ty : TypeId) (W : World) (a o : Addr) (n c c' : Nat) (h : n ≤ c) :
    (Builtin.append_ #[56, 56] ty #[.slice (some a) n c, .slice (some o) 0 c']).run Tryz.prog W = .ok (.slice (some a) n c) W := by
  have hi := in_Grid
  cases hh : Tryz.prog.info? 31 with
  | none => rw [hh] at hi; simp at hi
  | some i => simp [Builtin.append_, run_underlying un_SGrid, sizeOf, typeInfo, hh, Builtin.lenOf, Builtin.firstCells, h, storeCells, loadCells, loadCellsFrom]
@[go_sem] theorem append_empty2_Grid (ty : TypeId) (W : World) (a o : Addr) (n c c' : Nat) (h : n ≤ c) :
    appS #[56, 56] ty #[.slice (some a) n c, .slice (some o) 0 c'] W = .ok (.slice (some a) n c) W := append_empty2_Grid' ty W a o n c c' h
def zGrid : Array Value := #[.pointer none]
theorem append_one_Grid' (ty : TypeId) (W : World) (b0 b c : Nat) (h0 : W.hasC b0 0 = true) (h : W.hasC b 1 = true) :
    (Builtin.append_ #[56, 56] ty #[.slice (some ⟨b0, 0, none⟩) 0 0, .slice (some ⟨b, 0, none⟩) 1 c]).run Tryz.prog W =
      .ok (.slice (some ⟨W.heap.size, 0, none⟩) 1 (grownCap W 1 0 31)) (W.drew.alloc (.cells (padded (W.cellsAt b 0 1) (Builtin.zeroCells zGrid (grownCap W 1 0 31 - 1))) 31)) := by
  rw [append_grow_of un_SGrid in_Grid ty W b0 0 0 0 b 0 c 1 (by omega) (by omega) (by decide) (by simpa using h0) (by simpa using h)]
  have e0 : W.cellsAt b0 0 (0 * 1) = #[] := by unfold World.cellsAt; split <;> simp
  simp only [e0, Array.empty_append, Nat.zero_add, Nat.one_mul]
  rfl
@[go_sem] theorem append_one_Grid (ty : TypeId) (W : World) (b0 b c : Nat) (h0 : W.hasC b0 0 = true) (h : W.hasC b 1 = true) :
    appS #[56, 56] ty #[.slice (some ⟨b0, 0, none⟩) 0 0, .slice (some ⟨b, 0, none⟩) 1 c] W =
      .ok (.slice (some ⟨W.heap.size, 0, none⟩) 1 (grownCap W 1 0 31)) (W.drew.alloc (.cells (padded (W.cellsAt b 0 1) (Builtin.zeroCells zGrid (grownCap W 1 0 31 - 1))) 31)) := append_one_Grid' ty W b0 b c h0 h

set_option maxHeartbeats 0 in
set_option maxRecDepth 20000 in
theorem moved_one (fb fc : Nat) (p0 p1 : Option Addr) (w : World) (hf : w.cell? ⟨fb, 0, none⟩ = some (.pointer p0)) (hfo : w.oldB fb = true) (hfc : 1 ≤ fc) :
    Calls Tryz.prog 44 #[.slice (some ⟨fb, 0, none⟩) 1 fc, .slice none 0 0, .pointer p1] w
      fun e w' => ∃ b1 b3 cp, e = .returned (.tuple #[.pointer p0, .slice (some ⟨b1, 0, none⟩) 0 0, .slice (some ⟨b3, 0, none⟩) 1 cp]) ∧ Below w.heap.size w w' := by
  go_enter Tryz.func44, Tryz.ntmps44
  go_wp2_with fail
  go_region_law (fail)
  all_goals
    go_wp2_with fail
    go_ret3
    exact ⟨_, _, _, rfl, (by repeat (first | (with_reducible exact Below.refl _ _) | (with_reducible refine Below.drew ?_) | (with_reducible refine below_drewN ?_ _) | (with_reducible refine below_ext _ _ _ ?_ ?_) | (with_reducible refine Below.alloc ?_ ?_ _) | (with_reducible refine Below.setCell ?_ ?_ _) | (with_reducible refine below_putMap ?_ ?_ _ _) | assumption | (focus (simp; done)) | (focus (simp; omega)) | (focus omega) | refine below_tr (by assumption) (by simp <;> omega) ?_))⟩
end Go.Proofs.YtencimimccoofaaGreatDoor
