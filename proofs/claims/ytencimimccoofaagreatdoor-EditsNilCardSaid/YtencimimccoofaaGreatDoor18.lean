/- A sheet of no cell is worked out. -/
import Derived.Test.YtencimimccoofaaGreatDoor13
import Derived.WalkSmall
namespace Go.Proofs.YtencimimccoofaaGreatDoor
set_option linter.all false
open Go.RowKit

theorem Above_none (l ml : Nat) {ck : Nat} (w : World) (hg : w.cell? ⟨l, 0, none⟩ = some (.map (some ml))) (hl : w.oldB l = true) (hm : w.mapAt ml = some (#[], ck)) (hml : w.oldB ml = true) :
    Calls Tryz.prog 37 #[.pointer (some ⟨l, 0, none⟩), .slice none 0 0] w
      fun e w' => e = .returned (.slice none 0 0) ∧ Below w.heap.size w w' := by
  go_enter Tryz.func37, Tryz.ntmps37
  go_wp2_with (go_at_call 62; refine (links_set_nil l ml (ck := ck) _ (by go_simp) (by go_simp) (by go_simp)).mono ?_; rintro e w' ⟨rfl, hbel⟩; obtain ⟨E1, d1, rfl⟩ := ext_of_below hbel; clear hbel)
  refine wp_loop_rounds 2 ?_
  rw [rounds_succ]
  go_wp2
  refine wp_loop_rounds 1 ?_
  rw [rounds_succ]
  go_wp2
  go_ret
  exact ⟨rfl, (by repeat (first | (with_reducible exact Below.refl _ _) | (with_reducible refine Below.drew ?_) | (with_reducible refine below_drewN ?_ _) | (with_reducible refine below_ext _ _ _ ?_ ?_) | (with_reducible refine Below.alloc ?_ ?_ _) | (with_reducible refine Below.setCell ?_ ?_ _) | (with_reducible refine below_putMap ?_ ?_ _ _) | assumption | (focus (simp; done)) | (focus (simp; omega)) | (focus omega) | refine below_tr (by assumption) (by simp <;> omega) ?_))⟩

theorem Grow_none (w : World) : Calls Tryz.prog 96 #[.slice none 0 0, .int .i64 0] w
    fun e w' => e = .returned (.slice none 0 0) ∧ w = w' := by
  go_enter Tryz.func96, Tryz.ntmps96
  go_wp2
  go_ret
  exact ⟨rfl, rfl⟩

theorem append_nn_Addr' (ty : TypeId) (W : World) :
    (Builtin.append_ #[71, 71] ty #[.slice none 0 0, .slice none 0 0]).run Tryz.prog W = .ok (.slice none 0 0) W := by
  have hi := in_Addr
  cases hh : Tryz.prog.info? 24 with
  | none => rw [hh] at hi; simp at hi
  | some i => simp [Builtin.append_, run_underlying un_SAddr, sizeOf, typeInfo, hh, Builtin.lenOf, Builtin.firstCells, storeCells]
@[go_sem] theorem append_nn_Addr (ty : TypeId) (W : World) :
    appS #[71, 71] ty #[.slice none 0 0, .slice none 0 0] W = .ok (.slice none 0 0) W := append_nn_Addr' ty W

set_option maxHeartbeats 800000 in
theorem Concat_none (Q cq : Nat) (w : World) (hq0 : w.cell? ⟨Q, 0, none⟩ = some (.slice none 0 0)) (hq1 : w.cell? ⟨Q, 1, none⟩ = some (.slice none 0 0)) (hQ : w.oldB Q = true) :
    Calls Tryz.prog 66 #[.slice (some ⟨Q, 0, none⟩) 2 cq] w
    fun e w' => e = .returned (.slice none 0 0) ∧ Below w.heap.size w w' := by
  go_enter Tryz.func66, Tryz.ntmps66
  go_wp2
  refine wp_loop_rounds 3 ?_
  rw [rounds_succ]
  go_wp2
  rw [rounds_succ]
  go_wp2
  rw [rounds_succ]
  go_wp2_with (go_at_call 96; refine (Grow_none _).mono ?_; rintro e w' ⟨rfl, rfl⟩)
  refine wp_loop_rounds 3 ?_
  rw [rounds_succ]
  go_wp2
  rw [rounds_succ]
  go_wp2
  rw [rounds_succ]
  go_wp2
  go_ret
  exact ⟨rfl, (by repeat (first | (with_reducible exact Below.refl _ _) | (with_reducible refine Below.drew ?_) | (with_reducible refine below_drewN ?_ _) | (with_reducible refine below_ext _ _ _ ?_ ?_) | (with_reducible refine Below.alloc ?_ ?_ _) | (with_reducible refine Below.setCell ?_ ?_ _) | (with_reducible refine below_putMap ?_ ?_ _ _) | assumption | (focus (simp; done)) | (focus (simp; omega)) | (focus omega) | refine below_tr (by assumption) (by simp <;> omega) ?_))⟩

theorem formulas_none (S : Nat) (w : World) :
    Calls Tryz.prog 42 #[.pointer (some ⟨S, 0, none⟩), .slice none 0 0] w
      fun e w' => e = .returned (.slice none 0 0) ∧ Below w.heap.size w w' := by
  go_enter Tryz.func42, Tryz.ntmps42
  go_wp2_with fail
  refine wp_loop_rounds 2 ?_
  rw [rounds_succ]
  go_wp2_with fail
  go_ret
  exact ⟨rfl, (by repeat (first | (with_reducible exact Below.refl _ _) | (with_reducible refine Below.drew ?_) | (with_reducible refine below_drewN ?_ _) | (with_reducible refine below_ext _ _ _ ?_ ?_) | (with_reducible refine Below.alloc ?_ ?_ _) | (with_reducible refine Below.setCell ?_ ?_ _) | (with_reducible refine below_putMap ?_ ?_ _ _) | assumption | (focus (simp; done)) | (focus (simp; omega)) | (focus omega) | refine below_tr (by assumption) (by simp <;> omega) ?_))⟩

set_option maxHeartbeats 0 in
set_option maxRecDepth 20000 in
theorem work_none (S L ML : Nat) {ckl : Nat} (v3 v4 : Value) (w : World)
    (hs1 : w.cell? ⟨S, 1, none⟩ = some (.pointer (some ⟨L, 0, none⟩)))
    (hs3 : w.cell? ⟨S, 3, none⟩ = some v3) (hs4 : w.cell? ⟨S, 4, none⟩ = some v4) (hS : w.oldB S = true) (hz3 : w.frozen? ⟨S, 3, none⟩ = false) (hz4 : w.frozen? ⟨S, 4, none⟩ = false)
    (hl : w.cell? ⟨L, 0, none⟩ = some (.map (some ML))) (hL : w.oldB L = true) (hlm : w.mapAt ML = some (#[], ckl)) (hML : w.oldB ML = true)
    (hSL : S ≠ L) :
    Calls Tryz.prog 38 #[.pointer (some ⟨S, 0, none⟩), .slice none 0 0] w
      fun e w' => e = .returned (.tuple #[]) ∧ ∃ E d, w' = ((w.setCell ⟨S, 3, none⟩ (.slice none 0 0)).setCell ⟨S, 4, none⟩ (.slice none 0 0)).ext E d := by
  go_enter Tryz.func38, Tryz.ntmps38
  go_wp2_with fail
  refine wp_loop_rounds 2 ?_
  rw [rounds_succ]
  go_wp2_with fail
  go_region_held3 (fun w' => w'.cell? ⟨S, 1, none⟩ = some (.pointer (some ⟨L, 0, none⟩))) (((try dsimp only); (repeat' apply And.intro) <;> go_simp)) (first | (go_at_call 37; refine (Above_none L ML (ck := ckl) _ (by go_simp) (by go_simp) (by go_simp) (by go_simp)).mono ?_; rintro e w' ⟨rfl, hbel⟩; obtain ⟨E1, d1, rfl⟩ := ext_of_below hbel; clear hbel) | (go_at_call 66; refine (Concat_none _ _ _ (by go_simp) (by go_simp) (by go_simp)).mono ?_; rintro e w' ⟨rfl, hbel⟩; obtain ⟨E1, d1, rfl⟩ := ext_of_below hbel; clear hbel) | (go_at_call 42; refine (formulas_none S _).mono ?_; rintro e w' ⟨rfl, hbel⟩; obtain ⟨E1, d1, rfl⟩ := ext_of_below hbel; clear hbel) | (go_at_call 41; refine (Order_nil L _).mono ?_; rintro e w' ⟨rfl, hbel⟩; obtain ⟨E1, d1, rfl⟩ := ext_of_below hbel; clear hbel))
  all_goals
    go_wp2_with fail
    refine wp_loop_rounds 1 ?_
    rw [rounds_succ]
    go_wp2_with fail
    go_at_call 68
    refine (SortFunc_nil _ _).mono ?_
    rintro e w' ⟨rfl, rfl⟩
    go_wp2_with fail
    go_at_call 68
    refine (SortFunc_nil _ _).mono ?_
    rintro e w' ⟨rfl, rfl⟩
    go_wp2_with fail
    go_end0
    exact ⟨rfl, ext_of_below (by repeat (first | (with_reducible exact Below.refl _ _) | (with_reducible refine Below.drew ?_) | (with_reducible refine below_drewN ?_ _) | (with_reducible refine below_ext _ _ _ ?_ ?_) | (with_reducible refine Below.alloc ?_ ?_ _) | (with_reducible refine Below.setCell ?_ ?_ _) | (with_reducible refine below_putMap ?_ ?_ _ _) | assumption | (focus (simp; done)) | (focus (simp; omega)) | (focus omega) | refine below_tr (by assumption) (by simp <;> omega) ?_))⟩
end Go.Proofs.YtencimimccoofaaGreatDoor
