/- The grid: Get, Put. -/
import Derived.Test.YtencimimccoofaaGreatDoor5
namespace Go.Proofs.YtencimimccoofaaGreatDoor
open Go.RowKit

theorem oneF_0 : oneF 0 = 0 := by decide +kernel

set_option maxHeartbeats 1600000 in
set_option maxRecDepth 20000 in
theorem grid_Get_some (g mg : Nat) {es : Array MapEntry} {ck : Nat} (c r : Int) (kk : Int) (k : Int) (x : Nat) (s : ByteArray) (b : Bool) (f : Int) (nk no : Int) (nx : Nat) (ns : ByteArray) (nb : Bool) (nf : Int) (rc rr : Int) (rcf rrf : Bool) (tc tr : Int) (tcf trf : Bool) (w : World)
    (hg : w.cell? ⟨g, 0, none⟩ = some (.map (some mg))) (hgl : w.oldB g = true) (hm : w.mapAt mg = some (es, ck)) (hml : w.oldB mg = true) (hk : AddrKeys es)
    (hl : lookE es c r = some (.agg #[.int .i64 kk, .int .i64 k, .float .f64 x, .string s, .bool b, .int .i64 f, .int .i64 nk, .int .i64 no, .float .f64 nx, .string ns, .bool nb, .int .i64 nf, .int .i64 rc, .int .i64 rr, .bool rcf, .bool rrf, .int .i64 tc, .int .i64 tr, .bool tcf, .bool trf, .slice none 0 0])) :
    Calls Tryz.prog 35 #[.pointer (some ⟨g, 0, none⟩), .agg #[.int .i64 c, .int .i64 r]] w
      fun e w' => e = .returned (.agg #[.int .i64 kk, .int .i64 k, .float .f64 (oneF x), .string s, .bool b, .int .i64 f, .int .i64 nk, .int .i64 no, .float .f64 (oneF nx), .string ns, .bool nb, .int .i64 nf, .int .i64 rc, .int .i64 rr, .bool rcf, .bool rrf, .int .i64 tc, .int .i64 tr, .bool tcf, .bool trf, .slice none 0 0]) ∧ Below w.heap.size w w' := by
  go_enter Tryz.func35, Tryz.ntmps35
  go_wp2_with fail
  go_region_held3 (fun w' => w'.cell? ⟨g, 0, none⟩ = some (.map (some mg)) ∧ w'.hasC w.heap.size 2 = true ∧ w'.cellsAt w.heap.size 0 2 = #[.int .i64 c, .int .i64 r] ∧ w'.mapAt mg = some (es, ck)) (((try dsimp only); (repeat' apply And.intro) <;> go_simp))
    (first | (go_at_call 51; refine (grid_Copy0 _ _ _ _ _ _ _ _ _ _ _ _ _ _ _ _ _ _ _ _ _).mono ?_; rintro e w1 ⟨rfl, hb⟩; obtain ⟨E1, d1, rfl⟩ := ext_of_below hb; clear hb))
  go_wp2
  exact bodyPost_struct Tryz.results35 un_Content sz_Content rfl rfl (by go_simp) (by go_simp) ⟨rfl, (by repeat (first | (with_reducible exact Below.refl _ _) | (with_reducible refine Below.drew ?_) | (with_reducible refine below_drewN ?_ _) | (with_reducible refine below_ext _ _ _ ?_ ?_) | (with_reducible refine Below.alloc ?_ ?_ _) | (with_reducible refine Below.setCell ?_ ?_ _) | (with_reducible refine below_putMap ?_ ?_ _ _) | assumption | (focus (simp; done)) | (focus (simp; omega)) | (focus omega) | refine below_tr (by assumption) (by simp <;> omega) ?_))⟩

set_option maxHeartbeats 1600000 in
set_option maxRecDepth 20000 in
theorem grid_Get_none (g mg : Nat) {es : Array MapEntry} {ck : Nat} (c r : Int) (w : World)
    (hg : w.cell? ⟨g, 0, none⟩ = some (.map (some mg))) (hgl : w.oldB g = true) (hm : w.mapAt mg = some (es, ck)) (hml : w.oldB mg = true) (hk : AddrKeys es)
    (hl : lookE es c r = none) :
    Calls Tryz.prog 35 #[.pointer (some ⟨g, 0, none⟩), .agg #[.int .i64 c, .int .i64 r]] w
      fun e w' => e = .returned (.agg #[.int .i64 0, .int .i64 0, .float .f64 0, .string ⟨#[]⟩, .bool false, .int .i64 0, .int .i64 0, .int .i64 0, .float .f64 0, .string ⟨#[]⟩, .bool false, .int .i64 0, .int .i64 0, .int .i64 0, .bool false, .bool false, .int .i64 0, .int .i64 0, .bool false, .bool false, .slice none 0 0]) ∧ Below w.heap.size w w' := by
  have h0 := oneF_0
  go_enter Tryz.func35, Tryz.ntmps35
  go_wp2_with fail
  go_region_held3 (fun w' => w'.cell? ⟨g, 0, none⟩ = some (.map (some mg)) ∧ w'.hasC w.heap.size 2 = true ∧ w'.cellsAt w.heap.size 0 2 = #[.int .i64 c, .int .i64 r] ∧ w'.mapAt mg = some (es, ck)) (((try dsimp only); (repeat' apply And.intro) <;> go_simp))
    (first | (go_at_call 51; refine (grid_Copy0 _ _ _ _ _ _ _ _ _ _ _ _ _ _ _ _ _ _ _ _ _).mono ?_; rintro e w1 ⟨rfl, hb⟩; obtain ⟨E1, d1, rfl⟩ := ext_of_below hb; clear hb))
  go_wp2
  exact bodyPost_struct Tryz.results35 un_Content sz_Content rfl rfl (by go_simp) (by go_simp) ⟨rfl, (by repeat (first | (with_reducible exact Below.refl _ _) | (with_reducible refine Below.drew ?_) | (with_reducible refine below_drewN ?_ _) | (with_reducible refine below_ext _ _ _ ?_ ?_) | (with_reducible refine Below.alloc ?_ ?_ _) | (with_reducible refine Below.setCell ?_ ?_ _) | (with_reducible refine below_putMap ?_ ?_ _ _) | assumption | (focus (simp; done)) | (focus (simp; omega)) | (focus omega) | refine below_tr (by assumption) (by simp <;> omega) ?_))⟩

theorem grid_Len (g mg : Nat) {es : Array MapEntry} {ck : Nat} (w : World)
    (hg : w.cell? ⟨g, 0, none⟩ = some (.map (some mg))) (hm : w.mapAt mg = some (es, ck)) (hk : AddrKeys es) :
    Calls Tryz.prog 54 #[.pointer (some ⟨g, 0, none⟩)] w fun e w' => e = .returned (.int .i64 es.size) ∧ w = w' := by
  go_enter Tryz.func54, Tryz.ntmps54
  go_wp2
  go_ret
  exact ⟨rfl, rfl⟩

set_option maxHeartbeats 1600000 in
set_option maxRecDepth 20000 in
/-- an empty content is put: the cell is emptied -/
theorem grid_Put_empty (g mg : Nat) {es : Array MapEntry} {ck : Nat} (c r : Int) (w : World) (ha : addrValid c r = true)
    (hg : w.cell? ⟨g, 0, none⟩ = some (.map (some mg))) (hgl : w.oldB g = true) (hm : w.mapAt mg = some (es, ck)) (hml : w.oldB mg = true) (hk : AddrKeys es) :
    Calls Tryz.prog 57 #[.pointer (some ⟨g, 0, none⟩), .agg #[.int .i64 c, .int .i64 r], .agg #[.int .i64 0, .int .i64 0, .float .f64 0, .string ⟨#[]⟩, .bool false, .int .i64 0, .int .i64 0, .int .i64 0, .float .f64 0, .string ⟨#[]⟩, .bool false, .int .i64 0, .int .i64 0, .int .i64 0, .bool false, .bool false, .int .i64 0, .int .i64 0, .bool false, .bool false, .slice none 0 0]] w
      fun e w' => e = .returned (.int .i64 0) ∧ ∃ E d, w' = (w.putMap mg (delE es c r) ck).ext E d := by
  have hk2 : ((0 : Int) == 2) = false := rfl
  have hc2 : ((0 : Int) == 2) = false := rfl
  have hv : contOk 0 0 0 ⟨#[]⟩ false 0 (noNode 0 0 0 ⟨#[]⟩ false 0 0 0 false false 0 0 false false 0) = true := by decide +kernel
  go_enter Tryz.func57, Tryz.ntmps57
  go_wp2_with (first | (go_at_call 56; refine (grid_Valid0 _ _ _ _ _ _ _ _ _ _ _ _ _ _ _ _ _ _ _ _ hk2 hc2 _).mono ?_; rintro e w1 ⟨rfl, hb⟩; obtain ⟨E2, d2, rfl⟩ := ext_of_below hb; clear hb) | (go_at_call 55; refine (addr_Valid _ _ _).mono ?_; rintro e w1 ⟨rfl, hb⟩; obtain ⟨E3, d3, rfl⟩ := ext_of_below hb; clear hb))
  go_region_held3 (fun w' => w'.cell? ⟨g, 0, none⟩ = some (.map (some mg)) ∧ w'.hasC w.heap.size 2 = true ∧ w'.cellsAt w.heap.size 0 2 = #[.int .i64 c, .int .i64 r] ∧ (w'.mapAt mg).isSome = true) (((try dsimp only); (repeat' apply And.intro) <;> go_simp)) (fail)
  go_wp2
  go_ret
  exact ⟨rfl, ext_of_below (by repeat (first | (with_reducible exact Below.refl _ _) | (with_reducible refine Below.drew ?_) | (with_reducible refine below_drewN ?_ _) | (with_reducible refine below_ext _ _ _ ?_ ?_) | (with_reducible refine Below.alloc ?_ ?_ _) | (with_reducible refine Below.setCell ?_ ?_ _) | (with_reducible refine below_putMap ?_ ?_ _ _) | assumption | (focus (simp; done)) | (focus (simp; omega)) | (focus omega) | refine below_tr (by assumption) (by simp <;> omega) ?_))⟩

set_option maxHeartbeats 3200000 in
set_option maxRecDepth 20000 in
/-- a plain content is put -/
theorem grid_Put_plain (g mg : Nat) {es : Array MapEntry} {ck : Nat} (c r : Int) (k : Int) (x : Nat) (s : ByteArray) (b : Bool) (f : Int) (nk no : Int) (nx : Nat) (ns : ByteArray) (nb : Bool) (nf : Int) (rc rr : Int) (rcf rrf : Bool) (tc tr : Int) (tcf trf : Bool) (w : World) (ha : addrValid c r = true)
    (hk2 : (k == 2) = false) (hv : contOk 1 k x s b f (noNode nk no nx ns nb nf rc rr rcf rrf tc tr tcf trf 0) = true) (hfull : lookE es c r = none → es.size < 4096)
    (hg : w.cell? ⟨g, 0, none⟩ = some (.map (some mg))) (hgl : w.oldB g = true) (hm : w.mapAt mg = some (es, ck)) (hml : w.oldB mg = true) (hk : AddrKeys es)
    (hleaf : lookE es c r = none ∨ ∃ cs : Array Value, lookE es c r = some (.agg cs) ∧ cs.size = 21 ∧ allOne cs.toList = true) :
    Calls Tryz.prog 57 #[.pointer (some ⟨g, 0, none⟩), .agg #[.int .i64 c, .int .i64 r], .agg #[.int .i64 1, .int .i64 k, .float .f64 x, .string s, .bool b, .int .i64 f, .int .i64 nk, .int .i64 no, .float .f64 nx, .string ns, .bool nb, .int .i64 nf, .int .i64 rc, .int .i64 rr, .bool rcf, .bool rrf, .int .i64 tc, .int .i64 tr, .bool tcf, .bool trf, .slice none 0 0]] w
      fun e w' => e = .returned (.int .i64 0) ∧ ∃ E d, w' = (w.putMap mg (updE es ck c r (.agg #[.int .i64 1, .int .i64 k, .float .f64 (oneF x), .string s, .bool b, .int .i64 f, .int .i64 nk, .int .i64 no, .float .f64 (oneF nx), .string ns, .bool nb, .int .i64 nf, .int .i64 rc, .int .i64 rr, .bool rcf, .bool rrf, .int .i64 tc, .int .i64 tr, .bool tcf, .bool trf, .slice none 0 0])).1 (updE es ck c r (.agg #[.int .i64 1, .int .i64 k, .float .f64 (oneF x), .string s, .bool b, .int .i64 f, .int .i64 nk, .int .i64 no, .float .f64 (oneF nx), .string ns, .bool nb, .int .i64 nf, .int .i64 rc, .int .i64 rr, .bool rcf, .bool rrf, .int .i64 tc, .int .i64 tr, .bool tcf, .bool trf, .slice none 0 0])).2).ext E d := by
  have hc2 : ((1 : Int) == 2) = false := rfl
  rcases hleaf with hl | ⟨cs, hl, hsz, hone⟩
  · have hf := hfull hl
    have hf' : decide ((4096 : Int) ≤ (es.size : Int)) = false := by simp; omega
    go_enter Tryz.func57, Tryz.ntmps57
    go_wp2_with (first | (go_at_call 56; refine (grid_Valid0 _ _ _ _ _ _ _ _ _ _ _ _ _ _ _ _ _ _ _ _ hk2 hc2 _).mono ?_; rintro e w1 ⟨rfl, hb⟩; obtain ⟨E2, d2, rfl⟩ := ext_of_below hb; clear hb) | (go_at_call 55; refine (addr_Valid _ _ _).mono ?_; rintro e w1 ⟨rfl, hb⟩; obtain ⟨E3, d3, rfl⟩ := ext_of_below hb; clear hb))
    go_region_held3 (fun w' => w'.cell? ⟨g, 0, none⟩ = some (.map (some mg)) ∧ w'.hasC w.heap.size 2 = true ∧ w'.cellsAt w.heap.size 0 2 = #[.int .i64 c, .int .i64 r] ∧ w'.mapAt mg = some (es, ck)) (((try dsimp only); (repeat' apply And.intro) <;> go_simp)) (fail)
    go_wp2
    all_goals
      go_region_held3 (fun w' => w'.cell? ⟨g, 0, none⟩ = some (.map (some mg)) ∧ w'.hasC w.heap.size 2 = true ∧ w'.cellsAt w.heap.size 0 2 = #[.int .i64 c, .int .i64 r] ∧ w'.hasC (w.heap.size + 1) 21 = true ∧ w'.cellsAt (w.heap.size + 1) 0 21 = #[.int .i64 1, .int .i64 k, .float .f64 x, .string s, .bool b, .int .i64 f, .int .i64 nk, .int .i64 no, .float .f64 nx, .string ns, .bool nb, .int .i64 nf, .int .i64 rc, .int .i64 rr, .bool rcf, .bool rrf, .int .i64 tc, .int .i64 tr, .bool tcf, .bool trf, .slice none 0 0] ∧ (w'.mapAt mg).isSome = true) (((try dsimp only); (repeat' apply And.intro) <;> go_simp)) (first | (go_at_call 51; refine (grid_Copy0 _ _ _ _ _ _ _ _ _ _ _ _ _ _ _ _ _ _ _ _ _).mono ?_; rintro e w1 ⟨rfl, hb⟩; obtain ⟨E1, d1, rfl⟩ := ext_of_below hb; clear hb))
      go_wp2
      go_ret
      exact ⟨rfl, ext_of_below (by repeat (first | (with_reducible exact Below.refl _ _) | (with_reducible refine Below.drew ?_) | (with_reducible refine below_drewN ?_ _) | (with_reducible refine below_ext _ _ _ ?_ ?_) | (with_reducible refine Below.alloc ?_ ?_ _) | (with_reducible refine Below.setCell ?_ ?_ _) | (with_reducible refine below_putMap ?_ ?_ _ _) | assumption | (focus (simp; done)) | (focus (simp; omega)) | (focus omega) | refine below_tr (by assumption) (by simp <;> omega) ?_))⟩
  · go_enter Tryz.func57, Tryz.ntmps57
    go_wp2_with (first | (go_at_call 56; refine (grid_Valid0 _ _ _ _ _ _ _ _ _ _ _ _ _ _ _ _ _ _ _ _ hk2 hc2 _).mono ?_; rintro e w1 ⟨rfl, hb⟩; obtain ⟨E2, d2, rfl⟩ := ext_of_below hb; clear hb) | (go_at_call 55; refine (addr_Valid _ _ _).mono ?_; rintro e w1 ⟨rfl, hb⟩; obtain ⟨E3, d3, rfl⟩ := ext_of_below hb; clear hb))
    go_region_held3 (fun w' => w'.cell? ⟨g, 0, none⟩ = some (.map (some mg)) ∧ w'.hasC w.heap.size 2 = true ∧ w'.cellsAt w.heap.size 0 2 = #[.int .i64 c, .int .i64 r] ∧ w'.mapAt mg = some (es, ck)) (((try dsimp only); (repeat' apply And.intro) <;> go_simp)) (fail)
    go_wp2
    all_goals
      go_region_held3 (fun w' => w'.cell? ⟨g, 0, none⟩ = some (.map (some mg)) ∧ w'.hasC w.heap.size 2 = true ∧ w'.cellsAt w.heap.size 0 2 = #[.int .i64 c, .int .i64 r] ∧ w'.hasC (w.heap.size + 1) 21 = true ∧ w'.cellsAt (w.heap.size + 1) 0 21 = #[.int .i64 1, .int .i64 k, .float .f64 x, .string s, .bool b, .int .i64 f, .int .i64 nk, .int .i64 no, .float .f64 nx, .string ns, .bool nb, .int .i64 nf, .int .i64 rc, .int .i64 rr, .bool rcf, .bool rrf, .int .i64 tc, .int .i64 tr, .bool tcf, .bool trf, .slice none 0 0] ∧ (w'.mapAt mg).isSome = true) (((try dsimp only); (repeat' apply And.intro) <;> go_simp)) (first | (go_at_call 51; refine (grid_Copy0 _ _ _ _ _ _ _ _ _ _ _ _ _ _ _ _ _ _ _ _ _).mono ?_; rintro e w1 ⟨rfl, hb⟩; obtain ⟨E1, d1, rfl⟩ := ext_of_below hb; clear hb))
      go_wp2
      go_ret
      exact ⟨rfl, ext_of_below (by repeat (first | (with_reducible exact Below.refl _ _) | (with_reducible refine Below.drew ?_) | (with_reducible refine below_drewN ?_ _) | (with_reducible refine below_ext _ _ _ ?_ ?_) | (with_reducible refine Below.alloc ?_ ?_ _) | (with_reducible refine Below.setCell ?_ ?_ _) | (with_reducible refine below_putMap ?_ ?_ _ _) | assumption | (focus (simp; done)) | (focus (simp; omega)) | (focus omega) | refine below_tr (by assumption) (by simp <;> omega) ?_))⟩
end Go.Proofs.YtencimimccoofaaGreatDoor
