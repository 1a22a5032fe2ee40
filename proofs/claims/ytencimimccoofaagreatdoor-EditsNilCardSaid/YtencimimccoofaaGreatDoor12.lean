/- A sheet of plain contents: showing. -/
import Derived.Test.YtencimimccoofaaGreatDoor11
import Derived.Deep.RegionLaw
namespace Go.Proofs.YtencimimccoofaaGreatDoor
set_option linter.all false
open Go.RowKit
theorem ord_blank (x : Nat) : (valOrd 0 0 ⟨#[]⟩ false 0 1 (oneF x) ⟨#[]⟩ false 0 == 0) = false := by
  unfold valOrd cmpI; simp
set_option maxHeartbeats 1600000 in
set_option maxRecDepth 20000 in
/-- a cell that shows nothing is to show a number -/
theorem show_new (S L ML SH TD : Nat) {sh : Array MapEntry} {cks ckl : Nat} (c r : Int) (x : Nat) (s : ByteArray) (b : Bool) (f : Int) (w : World)
    (hs1 : w.cell? ⟨S, 1, none⟩ = some (.pointer (some ⟨L, 0, none⟩))) (hs2 : w.cell? ⟨S, 2, none⟩ = some (.map (some SH))) (hs4 : w.cell? ⟨S, 4, none⟩ = some (.slice none 0 0)) (hS : w.oldB S = true) (hfz : w.frozen? ⟨S, 4, none⟩ = false)
    (hm : w.mapAt SH = some (sh, cks)) (hml : w.oldB SH = true) (hk : AddrKeys sh) (hlk : lookE sh c r = none)
    (hl : w.cell? ⟨L, 0, none⟩ = some (.map (some ML))) (hL : w.oldB L = true) (hlm : w.mapAt ML = some (#[], ckl)) (hML : w.oldB ML = true) (hne : SH ≠ ML) :
    Calls Tryz.prog 65 #[.pointer (some ⟨S, 0, none⟩), .agg #[.int .i64 c, .int .i64 r], .agg #[.int .i64 1, .float .f64 x, .string s, .bool b, .int .i64 f], .map (some TD)] w
      fun e w' => e = .returned (.tuple #[]) ∧ ∃ n cp E d, w' = ((w.setCell ⟨S, 4, none⟩ (.slice (some ⟨n, 0, none⟩) 1 cp)).putMap SH (updE sh cks c r (.agg #[.int .i64 1, .float .f64 (oneF x), .string ⟨#[]⟩, .bool false, .int .i64 0])).1 (updE sh cks c r (.agg #[.int .i64 1, .float .f64 (oneF x), .string ⟨#[]⟩, .bool false, .int .i64 0])).2).ext E d := by
  have hob := ord_blank x
  go_enter Tryz.func65, Tryz.ntmps65
  go_wp2_with (first | (go_at_call 80; refine (value_OfNumber _ _).mono ?_; rintro e w' ⟨rfl, hbel⟩; obtain ⟨E1, d1, rfl⟩ := ext_of_below hbel; clear hbel))
  go_region_held3 (fun w' => (w'.cell? ⟨S, 2, none⟩ = some (.map (some SH)) ∧ w'.hasC w.heap.size 2 = true ∧ w'.cellsAt w.heap.size 0 2 = #[.int .i64 c, .int .i64 r]) ∧ w'.hasC (w.heap.size + 1) 5 = true ∧ w'.cellsAt (w.heap.size + 1) 0 5 = #[.int .i64 1, .float .f64 (oneF x), .string ⟨#[]⟩, .bool false, .int .i64 0]) (((try dsimp only); (repeat' apply And.intro) <;> go_simp)) (first | (go_at_call 78; refine (value_Same _ _ _ _ _ _ _ _ _ _ _).mono ?_; rintro e w' ⟨rfl, hbel⟩; obtain ⟨E1, d1, rfl⟩ := ext_of_below hbel; clear hbel))
  go_wp2
  go_region_held3 (fun w' => (w'.cell? ⟨S, 2, none⟩ = some (.map (some SH)) ∧ w'.hasC w.heap.size 2 = true ∧ w'.cellsAt w.heap.size 0 2 = #[.int .i64 c, .int .i64 r]) ∧ w'.hasC (w.heap.size + 1) 5 = true ∧ w'.cellsAt (w.heap.size + 1) 0 5 = #[.int .i64 1, .float .f64 (oneF x), .string ⟨#[]⟩, .bool false, .int .i64 0] ∧ (w'.mapAt SH).isSome = true) (((try dsimp only); (repeat' apply And.intro) <;> go_simp)) (fail)
  go_wp2
  go_region_law (fail)
  all_goals
    go_wp2
    go_region_held3 (fun w' => w'.cell? ⟨S, 1, none⟩ = some (.pointer (some ⟨L, 0, none⟩)) ∧ w'.hasC w.heap.size 2 = true ∧ w'.cellsAt w.heap.size 0 2 = #[.int .i64 c, .int .i64 r]) (((try dsimp only); (repeat' apply And.intro) <;> go_simp)) (first | (go_at_call 95; refine (Users_nil L ML c r (ck := ckl) _ (by go_simp) (by go_simp) (by go_simp) (by go_simp)).mono ?_; rintro e w' ⟨rfl, hbel⟩; obtain ⟨E1, d1, rfl⟩ := ext_of_below hbel; clear hbel))
    go_wp2
    refine wp_loop_rounds 1 ?_
    rw [rounds_succ]
    go_wp2
    go_end0
    exact ⟨rfl, _, _, ext_of_below (by repeat (first | (with_reducible exact Below.refl _ _) | (with_reducible refine Below.drew ?_) | (with_reducible refine below_drewN ?_ _) | (with_reducible refine below_ext _ _ _ ?_ ?_) | (with_reducible refine Below.alloc ?_ ?_ _) | (with_reducible refine Below.setCell ?_ ?_ _) | (with_reducible refine below_putMap ?_ ?_ _ _) | assumption | (focus (simp; done)) | (focus (simp; omega)) | (focus omega) | refine below_tr (by assumption) (by simp <;> omega) ?_))⟩

set_option maxHeartbeats 1600000 in
set_option maxRecDepth 20000 in
/-- a cell that shows the number already -/
theorem show_same (S SH TD : Nat) {sh : Array MapEntry} {cks : Nat} (c r : Int) (x : Nat) (s : ByteArray) (b : Bool) (f : Int) (k1 : Int) (x1 : Nat) (s1 : ByteArray) (b1 : Bool) (f1 : Int) (w : World)
    (hs2 : w.cell? ⟨S, 2, none⟩ = some (.map (some SH))) (hS : w.oldB S = true)
    (hm : w.mapAt SH = some (sh, cks)) (hml : w.oldB SH = true) (hk : AddrKeys sh) (hlk : lookE sh c r = some (.agg #[.int .i64 k1, .float .f64 x1, .string s1, .bool b1, .int .i64 f1]))
    (hs : (valOrd k1 x1 s1 b1 f1 1 (oneF x) ⟨#[]⟩ false 0 == 0) = true) :
    Calls Tryz.prog 65 #[.pointer (some ⟨S, 0, none⟩), .agg #[.int .i64 c, .int .i64 r], .agg #[.int .i64 1, .float .f64 x, .string s, .bool b, .int .i64 f], .map (some TD)] w
      fun e w' => e = .returned (.tuple #[]) ∧ Below w.heap.size w w' := by
  go_enter Tryz.func65, Tryz.ntmps65
  go_wp2_with (first | (go_at_call 80; refine (value_OfNumber _ _).mono ?_; rintro e w' ⟨rfl, hbel⟩; obtain ⟨E1, d1, rfl⟩ := ext_of_below hbel; clear hbel))
  go_region_held3 (fun w' => (w'.cell? ⟨S, 2, none⟩ = some (.map (some SH)) ∧ w'.hasC w.heap.size 2 = true ∧ w'.cellsAt w.heap.size 0 2 = #[.int .i64 c, .int .i64 r]) ∧ w'.hasC (w.heap.size + 1) 5 = true ∧ w'.cellsAt (w.heap.size + 1) 0 5 = #[.int .i64 1, .float .f64 (oneF x), .string ⟨#[]⟩, .bool false, .int .i64 0]) (((try dsimp only); (repeat' apply And.intro) <;> go_simp)) (first | (go_at_call 78; refine (value_Same _ _ _ _ _ _ _ _ _ _ _).mono ?_; rintro e w' ⟨rfl, hbel⟩; obtain ⟨E1, d1, rfl⟩ := ext_of_below hbel; clear hbel))
  go_wp2
  exact bodyPost_ret (results_none rfl _ _ _) rfl ⟨rfl, (by repeat (first | (with_reducible exact Below.refl _ _) | (with_reducible refine Below.drew ?_) | (with_reducible refine below_drewN ?_ _) | (with_reducible refine below_ext _ _ _ ?_ ?_) | (with_reducible refine Below.alloc ?_ ?_ _) | (with_reducible refine Below.setCell ?_ ?_ _) | (with_reducible refine below_putMap ?_ ?_ _ _) | assumption | (focus (simp; done)) | (focus (simp; omega)) | (focus omega) | refine below_tr (by assumption) (by simp <;> omega) ?_))⟩
end Go.Proofs.YtencimimccoofaaGreatDoor
