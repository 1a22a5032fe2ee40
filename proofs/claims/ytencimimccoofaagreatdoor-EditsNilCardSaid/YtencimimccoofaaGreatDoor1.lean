/- Leaves: comparison of whole numbers, addresses. -/
import Derived.Test.YtencimimccoofaaGreatDoor0
namespace Go.Proofs.YtencimimccoofaaGreatDoor
open Go.RowKit

def cmpI (a b : Int) : Int := if a < b then -1 else if b < a then 1 else 0
def addrValid (c r : Int) : Bool := decide (1 ≤ c) && decide (c ≤ 256) && decide (1 ≤ r) && decide (r ≤ 4096)

theorem isNaN_int (a : Int) (w : World) :
    Calls Tryz.prog 107 #[.int .i64 a] w fun e w' => e = .returned (.bool false) ∧ w = w' := by
  go_enter Tryz.func107, Tryz.ntmps107
  go_wp2
  go_ret
  simp

theorem cmp_Compare (a b : Int) (w : World) :
    Calls Tryz.prog 77 #[.int .i64 a, .int .i64 b] w fun e w' => e = .returned (.int .i64 (cmpI a b)) ∧ w = w' := by
  go_enter Tryz.func77, Tryz.ntmps77
  go_wp2_with (go_at_call 107; refine (isNaN_int _ _).mono ?_; rintro e w' ⟨rfl, rfl⟩)
  all_goals go_ret
  all_goals exact ⟨by simp only [cmpI, *]; simp <;> omega, rfl⟩

def orI (a b : Int) : Int := if a ≠ 0 then a else b
theorem orI_t {a b : Int} (h : (a != 0) = true) : a = orI a b := by simp at h; simp [orI, h]
theorem orI_f {a b : Int} (h : (a != 0) = false) : b = orI a b := by simp at h; simp [orI, h]
theorem orI_g {a b : Int} (h : (a != 0) = false) (h' : (b != 0) = false) : 0 = orI a b := by simp at h h'; simp [orI, h, h']
theorem cmp_Or (a b : Int) (w : World) (bl : Nat) (c : Nat) (h0 : w.cell? ⟨bl, 0, none⟩ = some (.int .i64 a)) (h1 : w.cell? ⟨bl, 1, none⟩ = some (.int .i64 b)) :
    Calls Tryz.prog 76 #[.slice (some ⟨bl, 0, none⟩) 2 c] w fun e w' => e = .returned (.int .i64 (orI a b)) ∧ w = w' := by
  go_enter Tryz.func76, Tryz.ntmps76
  go_wp2
  refine wp_loop_rounds 3 ?_
  rw [rounds_succ]
  go_wp2
  all_goals (try (rw [rounds_succ]; go_wp2))
  all_goals (try (rw [rounds_succ]; go_wp2))
  all_goals go_ret
  all_goals exact ⟨ret_int (by first | exact orI_t ‹_› | exact orI_g ‹_› ‹_› | exact orI_f ‹_›), rfl⟩

def addrOrd (c1 r1 c2 r2 : Int) : Int := orI (cmpI r1 r2) (cmpI c1 c2)

set_option maxHeartbeats 800000 in
theorem addr_Order (c1 r1 c2 r2 : Int) (w : World) :
    Calls Tryz.prog 49 #[.agg #[.int .i64 c1, .int .i64 r1], .agg #[.int .i64 c2, .int .i64 r2]] w fun e w' => e = .returned (.int .i64 (addrOrd c1 r1 c2 r2)) ∧ Below w.heap.size w w' := by
  go_enter Tryz.func49, Tryz.ntmps49
  go_wp2_with fail
  go_region_held3 (fun w' => w'.cell? ⟨w.heap.size, 0, none⟩ = some (.int .i64 c1) ∧ w'.cell? ⟨w.heap.size, 1, none⟩ = some (.int .i64 r1) ∧ w'.cell? ⟨w.heap.size + 1, 0, none⟩ = some (.int .i64 c2) ∧ w'.cell? ⟨w.heap.size + 1, 1, none⟩ = some (.int .i64 r2)) (go_keep)
    (first | (go_at_call 77; refine (cmp_Compare _ _ _).mono ?_; rintro e w' ⟨rfl, rfl⟩) | (go_at_call 76; refine (cmp_Or (cmpI r1 r2) (cmpI c1 c2) _ _ _ ?_ ?_).mono ?_; (go_simp); (go_simp); rintro e w' ⟨rfl, rfl⟩))
  all_goals go_wp2
  all_goals go_ret
  all_goals exact ⟨rfl, (by repeat (first | (with_reducible exact Below.refl _ _) | (with_reducible refine Below.drew ?_) | (with_reducible refine below_drewN ?_ _) | (with_reducible refine below_ext _ _ _ ?_ ?_) | (with_reducible refine Below.alloc ?_ ?_ _) | (with_reducible refine Below.setCell ?_ ?_ _) | (with_reducible refine below_putMap ?_ ?_ _ _) | assumption | (focus (simp; done)) | (focus (simp; omega)) | (focus omega) | refine below_tr (by assumption) (by simp <;> omega) ?_))⟩

theorem addr_Valid (c r : Int) (w : World) :
    Calls Tryz.prog 55 #[.agg #[.int .i64 c, .int .i64 r]] w fun e w' => e = .returned (.bool (addrValid c r)) ∧ Below w.heap.size w w' := by
  go_enter Tryz.func55, Tryz.ntmps55
  go_wp2
  all_goals go_ret
  all_goals exact ⟨by simp [addrValid, *] <;> omega, (Below.refl _ _).alloc (Nat.le_refl _) _⟩
end Go.Proofs.YtencimimccoofaaGreatDoor
