/- Small functions of sheets and books: what a cell shows; a copy of the contents; how many batches lie behind. -/
import Derived.Test.YtencimimccoofaaGreatDoor10b
import Derived.WalkSmall
namespace Go.Proofs.YtencimimccoofaaGreatDoor
open Go.RowKit

set_option maxHeartbeats 1600000 in
set_option maxRecDepth 20000 in
theorem live_Value_some (S SH : Nat) {sh : Array MapEntry} {cks : Nat} (c r : Int) (k : Int) (x : Nat) (s : ByteArray) (b : Bool) (f : Int) (w : World)
    (hs2 : w.cell? ⟨S, 2, none⟩ = some (.map (some SH))) (hS : w.oldB S = true) (hsm : w.mapAt SH = some (sh, cks)) (hsml : w.oldB SH = true) (hsk : AddrKeys sh) (hsl : lookE sh c r = some (.agg #[.int .i64 k, .float .f64 x, .string s, .bool b, .int .i64 f])) :
    Calls Tryz.prog 29 #[.pointer (some ⟨S, 0, none⟩), .agg #[.int .i64 c, .int .i64 r]] w
      fun e w' => e = .returned (.agg #[.int .i64 k, .float .f64 x, .string s, .bool b, .int .i64 f]) ∧ Below w.heap.size w w' := by
  go_enter Tryz.func29, Tryz.ntmps29
  go_wp2_with fail
  go_region_held3 (fun w' => w'.cell? ⟨S, 2, none⟩ = some (.map (some SH)) ∧ w'.hasC w.heap.size 2 = true ∧ w'.cellsAt w.heap.size 0 2 = #[.int .i64 c, .int .i64 r] ∧ w'.mapAt SH = some (sh, cks)) (((try dsimp only); (repeat' apply And.intro) <;> go_simp)) (fail)
  go_wp2
  exact bodyPost_struct Tryz.results29 un_Value sz_Value rfl rfl (by go_simp) (by go_simp) ⟨rfl, (by repeat (first | (with_reducible exact Below.refl _ _) | (with_reducible refine Below.drew ?_) | (with_reducible refine below_drewN ?_ _) | (with_reducible refine below_ext _ _ _ ?_ ?_) | (with_reducible refine Below.alloc ?_ ?_ _) | (with_reducible refine Below.setCell ?_ ?_ _) | (with_reducible refine below_putMap ?_ ?_ _ _) | assumption | (focus (simp; done)) | (focus (simp; omega)) | (focus omega) | refine below_tr (by assumption) (by simp <;> omega) ?_))⟩

set_option maxHeartbeats 1600000 in
set_option maxRecDepth 20000 in
theorem live_Value_none (S SH : Nat) {sh : Array MapEntry} {cks : Nat} (c r : Int) (w : World)
    (hs2 : w.cell? ⟨S, 2, none⟩ = some (.map (some SH))) (hS : w.oldB S = true) (hsm : w.mapAt SH = some (sh, cks)) (hsml : w.oldB SH = true) (hsk : AddrKeys sh) (hsl : lookE sh c r = none) :
    Calls Tryz.prog 29 #[.pointer (some ⟨S, 0, none⟩), .agg #[.int .i64 c, .int .i64 r]] w
      fun e w' => e = .returned (.agg #[.int .i64 0, .float .f64 0, .string ⟨#[]⟩, .bool false, .int .i64 0]) ∧ Below w.heap.size w w' := by
  go_enter Tryz.func29, Tryz.ntmps29
  go_wp2_with fail
  go_region_held3 (fun w' => w'.cell? ⟨S, 2, none⟩ = some (.map (some SH)) ∧ w'.hasC w.heap.size 2 = true ∧ w'.cellsAt w.heap.size 0 2 = #[.int .i64 c, .int .i64 r] ∧ w'.mapAt SH = some (sh, cks)) (((try dsimp only); (repeat' apply And.intro) <;> go_simp)) (fail)
  go_wp2
  exact bodyPost_struct Tryz.results29 un_Value sz_Value rfl rfl (by go_simp) (by go_simp) ⟨rfl, (by repeat (first | (with_reducible exact Below.refl _ _) | (with_reducible refine Below.drew ?_) | (with_reducible refine below_drewN ?_ _) | (with_reducible refine below_ext _ _ _ ?_ ?_) | (with_reducible refine Below.alloc ?_ ?_ _) | (with_reducible refine Below.setCell ?_ ?_ _) | (with_reducible refine below_putMap ?_ ?_ _ _) | assumption | (focus (simp; done)) | (focus (simp; omega)) | (focus omega) | refine below_tr (by assumption) (by simp <;> omega) ?_))⟩

set_option maxHeartbeats 1600000 in
set_option maxRecDepth 20000 in
theorem book_Value_some (K S SH : Nat) {sh : Array MapEntry} {cks : Nat} (c r : Int) (k : Int) (x : Nat) (s : ByteArray) (b : Bool) (f : Int) (w : World) (hk3 : w.cell? ⟨K, 3, none⟩ = some (.pointer (some ⟨S, 0, none⟩))) (hK : w.oldB K = true)
    (hs2 : w.cell? ⟨S, 2, none⟩ = some (.map (some SH))) (hS : w.oldB S = true) (hsm : w.mapAt SH = some (sh, cks)) (hsml : w.oldB SH = true) (hsk : AddrKeys sh) (hsl : lookE sh c r = some (.agg #[.int .i64 k, .float .f64 x, .string s, .bool b, .int .i64 f])) :
    Calls Tryz.prog 14 #[.pointer (some ⟨K, 0, none⟩), .agg #[.int .i64 c, .int .i64 r]] w
      fun e w' => e = .returned (.agg #[.int .i64 k, .float .f64 x, .string s, .bool b, .int .i64 f]) ∧ Below w.heap.size w w' := by
  go_enter Tryz.func14, Tryz.ntmps14
  go_wp2_with fail
  go_region_held3 (fun w' => w'.cell? ⟨K, 3, none⟩ = some (.pointer (some ⟨S, 0, none⟩)) ∧ w'.hasC w.heap.size 2 = true ∧ w'.cellsAt w.heap.size 0 2 = #[.int .i64 c, .int .i64 r]) (((try dsimp only); (repeat' apply And.intro) <;> go_simp)) (first | (go_at_call 29; refine (live_Value_some S SH (sh := sh) (cks := cks) c r k x s b f _ (by go_simp) (by go_simp) (by go_simp) (by go_simp) hsk hsl).mono ?_; rintro e w' ⟨rfl, hbel⟩; obtain ⟨E1, d1, rfl⟩ := ext_of_below hbel; clear hbel))
  go_wp2
  exact bodyPost_struct Tryz.results14 un_Value sz_Value rfl rfl (by go_simp) (by go_simp) ⟨rfl, (by repeat (first | (with_reducible exact Below.refl _ _) | (with_reducible refine Below.drew ?_) | (with_reducible refine below_drewN ?_ _) | (with_reducible refine below_ext _ _ _ ?_ ?_) | (with_reducible refine Below.alloc ?_ ?_ _) | (with_reducible refine Below.setCell ?_ ?_ _) | (with_reducible refine below_putMap ?_ ?_ _ _) | assumption | (focus (simp; done)) | (focus (simp; omega)) | (focus omega) | refine below_tr (by assumption) (by simp <;> omega) ?_))⟩

set_option maxHeartbeats 1600000 in
set_option maxRecDepth 20000 in
theorem book_Value_none (K S SH : Nat) {sh : Array MapEntry} {cks : Nat} (c r : Int) (w : World) (hk3 : w.cell? ⟨K, 3, none⟩ = some (.pointer (some ⟨S, 0, none⟩))) (hK : w.oldB K = true)
    (hs2 : w.cell? ⟨S, 2, none⟩ = some (.map (some SH))) (hS : w.oldB S = true) (hsm : w.mapAt SH = some (sh, cks)) (hsml : w.oldB SH = true) (hsk : AddrKeys sh) (hsl : lookE sh c r = none) :
    Calls Tryz.prog 14 #[.pointer (some ⟨K, 0, none⟩), .agg #[.int .i64 c, .int .i64 r]] w
      fun e w' => e = .returned (.agg #[.int .i64 0, .float .f64 0, .string ⟨#[]⟩, .bool false, .int .i64 0]) ∧ Below w.heap.size w w' := by
  go_enter Tryz.func14, Tryz.ntmps14
  go_wp2_with fail
  go_region_held3 (fun w' => w'.cell? ⟨K, 3, none⟩ = some (.pointer (some ⟨S, 0, none⟩)) ∧ w'.hasC w.heap.size 2 = true ∧ w'.cellsAt w.heap.size 0 2 = #[.int .i64 c, .int .i64 r]) (((try dsimp only); (repeat' apply And.intro) <;> go_simp)) (first | (go_at_call 29; refine (live_Value_none S SH (sh := sh) (cks := cks) c r _ (by go_simp) (by go_simp) (by go_simp) (by go_simp) hsk hsl).mono ?_; rintro e w' ⟨rfl, hbel⟩; obtain ⟨E1, d1, rfl⟩ := ext_of_below hbel; clear hbel))
  go_wp2
  exact bodyPost_struct Tryz.results14 un_Value sz_Value rfl rfl (by go_simp) (by go_simp) ⟨rfl, (by repeat (first | (with_reducible exact Below.refl _ _) | (with_reducible refine Below.drew ?_) | (with_reducible refine below_drewN ?_ _) | (with_reducible refine below_ext _ _ _ ?_ ?_) | (with_reducible refine Below.alloc ?_ ?_ _) | (with_reducible refine Below.setCell ?_ ?_ _) | (with_reducible refine below_putMap ?_ ?_ _ _) | assumption | (focus (simp; done)) | (focus (simp; omega)) | (focus omega) | refine below_tr (by assumption) (by simp <;> omega) ?_))⟩

theorem live_Grid (S G M : Nat) {es : Array MapEntry} {ck : Nat} (w : World) (hs0 : w.cell? ⟨S, 0, none⟩ = some (.pointer (some ⟨G, 0, none⟩))) (hg : w.cell? ⟨G, 0, none⟩ = some (.map (some M))) (hm : w.mapAt M = some (es, ck)) :
    Calls Tryz.prog 22 #[.pointer (some ⟨S, 0, none⟩)] w
      fun e w' => e = .returned (.pointer (some ⟨w.heap.size + 1, 0, none⟩)) ∧ w' = cloneW w es ck := by
  go_enter Tryz.func22, Tryz.ntmps22
  go_wp2_with (go_at_call 24; refine (grid_Clone G M (es := es) (ck := ck) _ hg hm).mono ?_; rintro e w' ⟨rfl, rfl⟩)
  go_ret
  exact ⟨rfl, rfl⟩

theorem book_Backs (K n cp : Nat) (a : Option Addr) (w : World) (hk1 : w.cell? ⟨K, 1, none⟩ = some (.slice a n cp)) :
    Calls Tryz.prog 10 #[.pointer (some ⟨K, 0, none⟩)] w fun e w' => e = .returned (.int .i64 n) ∧ w = w' := by
  go_enter Tryz.func10, Tryz.ntmps10
  go_wp2
  go_ret
  exact ⟨rfl, rfl⟩
theorem book_Agains (K n cp : Nat) (a : Option Addr) (w : World) (hk1 : w.cell? ⟨K, 2, none⟩ = some (.slice a n cp)) :
    Calls Tryz.prog 11 #[.pointer (some ⟨K, 0, none⟩)] w fun e w' => e = .returned (.int .i64 n) ∧ w = w' := by
  go_enter Tryz.func11, Tryz.ntmps11
  go_wp2
  go_ret
  exact ⟨rfl, rfl⟩
end Go.Proofs.YtencimimccoofaaGreatDoor
