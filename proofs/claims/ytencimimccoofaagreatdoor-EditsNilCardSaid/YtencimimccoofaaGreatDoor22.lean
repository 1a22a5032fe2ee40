/- Rows of contents: one back. -/
import Derived.Test.YtencimimccoofaaGreatDoor21
import Derived.Deep.RegionWith
namespace Go.Proofs.YtencimimccoofaaGreatDoor
set_option linter.all false
open Go.RowKit Go.Shelf
attribute [local go_sem ↓] Go.wp_at_zero Go.wp_at_succ

set_option maxHeartbeats 0 in
set_option maxRecDepth 20000 in
theorem rows_back (K fb fc : Nat) (p0 p1 : Option Addr) (w : World) (hK : w.oldB K = true) (hk0 : w.cell? ⟨K, 0, none⟩ = some (.pointer p1)) (hk1 : w.cell? ⟨K, 1, none⟩ = some (.slice (some ⟨fb, 0, none⟩) 1 fc)) (hk2 : w.cell? ⟨K, 2, none⟩ = some (.slice none 0 0))
    (hz0 : w.frozen? ⟨K, 0, none⟩ = false) (hz1 : w.frozen? ⟨K, 1, none⟩ = false) (hz2 : w.frozen? ⟨K, 2, none⟩ = false)
    (hf : w.cell? ⟨fb, 0, none⟩ = some (.pointer p0)) (hfo : w.oldB fb = true) (hfc : 1 ≤ fc) :
    Calls Tryz.prog 25 #[.pointer (some ⟨K, 0, none⟩)] w
      fun e w' => e = .returned (.tuple #[]) ∧ ∃ b1 b3 cp E d, w' = (((w.setCell ⟨K, 0, none⟩ (.pointer p0)).setCell ⟨K, 1, none⟩ (.slice (some ⟨b1, 0, none⟩) 0 0)).setCell ⟨K, 2, none⟩ (.slice (some ⟨b3, 0, none⟩) 1 cp)).ext E d := by
  go_enter Tryz.func25, Tryz.ntmps25
  go_wp2_with fail
  go_region_with ((go_at_call 44; refine (moved_one fb fc p0 p1 _ (by go_simp) (by go_simp) hfc).mono ?_; rintro e w' ⟨b1, b3, cp, rfl, hb⟩; obtain ⟨E, d, rfl⟩ := ext_of_below hb; clear hb))
  all_goals
    go_end0
    exact ⟨rfl, _, _, _, ext_of_below (by repeat (first | (with_reducible exact Below.refl _ _) | (with_reducible refine Below.drew ?_) | (with_reducible refine below_drewN ?_ _) | (with_reducible refine below_ext _ _ _ ?_ ?_) | (with_reducible refine Below.alloc ?_ ?_ _) | (with_reducible refine Below.setCell ?_ ?_ _) | (with_reducible refine below_putMap ?_ ?_ _ _) | assumption | (focus (simp; done)) | (focus (simp; omega)) | (focus omega) | refine below_tr (by assumption) (by simp <;> omega) ?_))⟩
end Go.Proofs.YtencimimccoofaaGreatDoor
