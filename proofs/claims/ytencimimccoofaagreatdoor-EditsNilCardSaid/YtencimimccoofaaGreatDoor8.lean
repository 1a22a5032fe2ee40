/- Links of no cell: what hangs on others, who uses a cell. -/
import Derived.Test.YtencimimccoofaaGreatDoor7
import Derived.Carry
namespace Go.Proofs.YtencimimccoofaaGreatDoor
open Go.RowKit
attribute [go_sem] run_makeMap

theorem Above1_nil (c r : Int) (pa pm pl pw : Nat) (w : World) (ha : w.cell? ⟨pa, 0, none⟩ = some (.slice none 0 0)) (hpa : w.oldB pa = true) :
    Calls Tryz.prog 63 #[.agg #[.int .i64 c, .int .i64 r], .pointer (some ⟨pa, 0, none⟩), .pointer (some ⟨pm, 0, none⟩), .pointer (some ⟨pl, 0, none⟩), .pointer (some ⟨pw, 0, none⟩)] w
      fun e w' => e = .returned (.tuple #[]) ∧ Below w.heap.size w w' := by
  go_enter Tryz.func63, Tryz.ntmps63
  go_wp2
  refine wp_loop_rounds 1 ?_
  rw [rounds_succ]
  go_wp2
  go_end0
  exact ⟨rfl, (by repeat (first | (with_reducible exact Below.refl _ _) | (with_reducible refine Below.drew ?_) | (with_reducible refine below_drewN ?_ _) | (with_reducible refine below_ext _ _ _ ?_ ?_) | (with_reducible refine Below.alloc ?_ ?_ _) | (with_reducible refine Below.setCell ?_ ?_ _) | (with_reducible refine below_putMap ?_ ?_ _ _) | assumption | (focus (simp; done)) | (focus (simp; omega)) | (focus omega) | refine below_tr (by assumption) (by simp <;> omega) ?_))⟩


/-- who hangs on one cell, where no cell uses any -/
theorem Above_nil (l ml b cp : Nat) (c r : Int) {ck : Nat} (w : World) (hg : w.cell? ⟨l, 0, none⟩ = some (.map (some ml))) (hl : w.oldB l = true) (hm : w.mapAt ml = some (#[], ck)) (hml : w.oldB ml = true)
    (h0 : w.hasC b 2 = true) (h1 : w.cellsAt b 0 2 = #[.int .i64 c, .int .i64 r]) (hb : w.oldB b = true) :
    Calls Tryz.prog 37 #[.pointer (some ⟨l, 0, none⟩), .slice (some ⟨b, 0, none⟩) 1 cp] w
      fun e w' => e = .returned (.slice none 0 0) ∧ Below w.heap.size w w' := by
  go_enter Tryz.func37, Tryz.ntmps37
  go_wp2_with (go_at_call 62; refine (links_set_nil l ml (ck := ck) _ (by go_simp) (by go_simp) (by go_simp)).mono ?_; rintro e w' ⟨rfl, hbel⟩; obtain ⟨E1, d1, rfl⟩ := ext_of_below hbel; clear hbel)
  refine wp_loop_rounds 2 ?_
  rw [rounds_succ]
  go_wp2_with (go_at_call 63; refine (Above1_nil _ _ _ _ _ _ _ (by go_simp) (by go_simp)).mono ?_; rintro e w' ⟨rfl, hbel⟩; obtain ⟨E1, d1, rfl⟩ := ext_of_below hbel; clear hbel)
  rw [rounds_succ]
  go_wp2
  refine wp_loop_rounds 1 ?_
  rw [rounds_succ]
  go_wp2
  go_ret
  exact ⟨rfl, (by repeat (first | (with_reducible exact Below.refl _ _) | (with_reducible refine Below.drew ?_) | (with_reducible refine below_drewN ?_ _) | (with_reducible refine below_ext _ _ _ ?_ ?_) | (with_reducible refine Below.alloc ?_ ?_ _) | (with_reducible refine Below.setCell ?_ ?_ _) | (with_reducible refine below_putMap ?_ ?_ _ _) | assumption | (focus (simp; done)) | (focus (simp; omega)) | (focus omega) | refine below_tr (by assumption) (by simp <;> omega) ?_))⟩

theorem Users_nil (l ml : Nat) (c r : Int) {ck : Nat} (w : World) (hg : w.cell? ⟨l, 0, none⟩ = some (.map (some ml))) (hl : w.oldB l = true) (hm : w.mapAt ml = some (#[], ck)) (hml : w.oldB ml = true) :
    Calls Tryz.prog 95 #[.pointer (some ⟨l, 0, none⟩), .agg #[.int .i64 c, .int .i64 r]] w
      fun e w' => e = .returned (.slice none 0 0) ∧ Below w.heap.size w w' := by
  go_enter Tryz.func95, Tryz.ntmps95
  go_wp2_with (go_at_call 62; refine (links_set_nil l ml (ck := ck) _ (by go_simp) (by go_simp) (by go_simp)).mono ?_; rintro e w' ⟨rfl, hbel⟩; obtain ⟨E1, d1, rfl⟩ := ext_of_below hbel; clear hbel)
  refine wp_loop_rounds 1 ?_
  rw [rounds_succ]
  go_wp2
  go_ret
  exact ⟨rfl, (by repeat (first | (with_reducible exact Below.refl _ _) | (with_reducible refine Below.drew ?_) | (with_reducible refine below_drewN ?_ _) | (with_reducible refine below_ext _ _ _ ?_ ?_) | (with_reducible refine Below.alloc ?_ ?_ _) | (with_reducible refine Below.setCell ?_ ?_ _) | (with_reducible refine below_putMap ?_ ?_ _ _) | assumption | (focus (simp; done)) | (focus (simp; omega)) | (focus omega) | refine below_tr (by assumption) (by simp <;> omega) ?_))⟩

@[go_sem] theorem nil_Addrs (a : Option Addr) (n c : Nat) (w : World) : (binOp .eql 71 (.slice a n c) (.slice none 0 0)).run Tryz.prog w = .ok (.bool a.isNone) w :=
  Lib.run_eql_slice_nil w _ 24 a n c 0 0 (by kernel_rfl)
theorem Clone_nil (w : World) : Calls Tryz.prog 103 #[.slice none 0 0] w fun e w' => e = .returned (.slice none 0 0) ∧ w = w' := by
  go_enter Tryz.func103, Tryz.ntmps103
  go_wp2
  go_ret
  exact ⟨rfl, rfl⟩
theorem Compact_nil (w : World) : Calls Tryz.prog 104 #[.slice none 0 0] w fun e w' => e = .returned (.slice none 0 0) ∧ w = w' := by
  go_enter Tryz.func104, Tryz.ntmps104
  go_wp2
  go_ret
  exact ⟨rfl, rfl⟩

theorem Ready_nil (l : Nat) (w : World) :
    Calls Tryz.prog 72 #[.pointer (some ⟨l, 0, none⟩), .slice none 0 0, .slice none 0 0] w
      fun e w' => e = .returned (.tuple #[.slice none 0 0, .int .i64 0]) ∧ Below w.heap.size w w' := by
  go_enter Tryz.func72, Tryz.ntmps72
  go_wp2_with (first | (go_at_call 68; refine (SortFunc_nil _ _).mono ?_; rintro e w' ⟨rfl, rfl⟩) | (go_at_call 103; refine (Clone_nil _).mono ?_; rintro e w' ⟨rfl, rfl⟩) | (go_at_call 104; refine (Compact_nil _).mono ?_; rintro e w' ⟨rfl, rfl⟩))
  refine wp_loop_rounds 1 ?_
  rw [rounds_succ]
  go_wp2_with (first | (go_at_call 68; refine (SortFunc_nil _ _).mono ?_; rintro e w' ⟨rfl, rfl⟩) | (go_at_call 103; refine (Clone_nil _).mono ?_; rintro e w' ⟨rfl, rfl⟩) | (go_at_call 104; refine (Compact_nil _).mono ?_; rintro e w' ⟨rfl, rfl⟩))
  refine wp_loop_rounds 1 ?_
  rw [rounds_succ]
  go_wp2
  refine wp_loop_rounds 1 ?_
  rw [rounds_succ]
  go_wp2
  go_ret2
  exact ⟨rfl, (by repeat (first | (with_reducible exact Below.refl _ _) | (with_reducible refine Below.drew ?_) | (with_reducible refine below_drewN ?_ _) | (with_reducible refine below_ext _ _ _ ?_ ?_) | (with_reducible refine Below.alloc ?_ ?_ _) | (with_reducible refine Below.setCell ?_ ?_ _) | (with_reducible refine below_putMap ?_ ?_ _ _) | assumption | (focus (simp; done)) | (focus (simp; omega)) | (focus omega) | refine below_tr (by assumption) (by simp <;> omega) ?_))⟩

theorem Order_nil (l : Nat) (w : World) :
    Calls Tryz.prog 41 #[.pointer (some ⟨l, 0, none⟩), .slice none 0 0] w
      fun e w' => e = .returned (.tuple #[.slice none 0 0, .int .i64 0]) ∧ Below w.heap.size w w' := by
  go_enter Tryz.func41, Tryz.ntmps41
  go_wp2_with (go_at_call 72; refine (Ready_nil l _).mono ?_; rintro e w' ⟨rfl, hbel⟩; obtain ⟨E1, d1, rfl⟩ := ext_of_below hbel; clear hbel)
  go_ret2
  exact ⟨rfl, (by repeat (first | (with_reducible exact Below.refl _ _) | (with_reducible refine Below.drew ?_) | (with_reducible refine below_drewN ?_ _) | (with_reducible refine below_ext _ _ _ ?_ ?_) | (with_reducible refine Below.alloc ?_ ?_ _) | (with_reducible refine Below.setCell ?_ ?_ _) | (with_reducible refine below_putMap ?_ ?_ _ _) | assumption | (focus (simp; done)) | (focus (simp; omega)) | (focus omega) | refine below_tr (by assumption) (by simp <;> omega) ?_))⟩

theorem putMap_same {w : World} {m : Nat} {es : Array MapEntry} {ck : Nat} (h : w.mapAt m = some (es, ck)) : w.putMap m es ck = w := by
  have h' := mapAt_iff.1 h
  unfold World.putMap
  have : w.heap.modify m (overMap es ck) = w.heap := by
    apply Array.ext_getElem?
    intro i
    rw [Array.getElem?_modify]
    by_cases hi : m = i
    · subst hi; simp [h', overMap]
    · simp [hi]
  rw [this]
theorem delE_nil (c r : Int) : delE #[] c r = #[] := rfl

theorem Drop_nil (l ml : Nat) (c r : Int) {ck : Nat} (w : World) (hg : w.cell? ⟨l, 0, none⟩ = some (.map (some ml))) (hl : w.oldB l = true) (hm : w.mapAt ml = some (#[], ck)) (hml : w.oldB ml = true) :
    Calls Tryz.prog 58 #[.pointer (some ⟨l, 0, none⟩), .agg #[.int .i64 c, .int .i64 r]] w
      fun e w' => e = .returned (.bool false) ∧ Below w.heap.size w w' := by
  have hk := lookE_nil c r
  have hak := AddrKeys_nil
  have hd := delE_nil c r
  go_enter Tryz.func58, Tryz.ntmps58
  go_wp2
  go_region_held3 (fun w' => (w'.cell? ⟨l, 0, none⟩ = some (.map (some ml)) ∧ w'.mapAt ml = some (#[], ck)) ∧ w'.hasC w.heap.size 2 = true ∧ w'.cellsAt w.heap.size 0 2 = #[.int .i64 c, .int .i64 r]) (((try dsimp only); (repeat' apply And.intro) <;> go_simp)) (fail)
  go_wp2
  go_region_held3 (fun w' => (w'.cell? ⟨l, 0, none⟩ = some (.map (some ml)) ∧ (w'.mapAt ml).isSome = true) ∧ w'.hasC w.heap.size 2 = true ∧ w'.cellsAt w.heap.size 0 2 = #[.int .i64 c, .int .i64 r]) (((try dsimp only); (repeat' apply And.intro) <;> go_simp)) (fail)
  go_wp2
  rw [putMap_same (es := #[]) (ck := ck) (by go_simp)]
  go_ret
  exact ⟨rfl, (by repeat (first | (with_reducible exact Below.refl _ _) | (with_reducible refine Below.drew ?_) | (with_reducible refine below_drewN ?_ _) | (with_reducible refine below_ext _ _ _ ?_ ?_) | (with_reducible refine Below.alloc ?_ ?_ _) | (with_reducible refine Below.setCell ?_ ?_ _) | (with_reducible refine below_putMap ?_ ?_ _ _) | assumption | (focus (simp; done)) | (focus (simp; omega)) | (focus omega) | refine below_tr (by assumption) (by simp <;> omega) ?_))⟩
end Go.Proofs.YtencimimccoofaaGreatDoor
