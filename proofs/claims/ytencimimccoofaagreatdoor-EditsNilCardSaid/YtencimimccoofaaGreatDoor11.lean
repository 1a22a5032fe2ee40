/- A sheet of plain contents: laying down, showing, working out. -/
import Derived.Test.YtencimimccoofaaGreatDoor10b
namespace Go.Proofs.YtencimimccoofaaGreatDoor
set_option linter.all false
open Go.RowKit
set_option maxHeartbeats 1600000 in
set_option maxRecDepth 20000 in
theorem lay_plain (S G MG L ML : Nat) {es : Array MapEntry} {ck ckl : Nat} (c r : Int) (k : Int) (x : Nat) (s : ByteArray) (b : Bool) (f : Int) (nk no : Int) (nx : Nat) (ns : ByteArray) (nb : Bool) (nf : Int) (rc rr : Int) (rcf rrf : Bool) (tc tr : Int) (tcf trf : Bool) (w : World) (ha : addrValid c r = true)
    (hk2 : (k == 2) = false) (hv : contOk 1 k x s b f (noNode nk no nx ns nb nf rc rr rcf rrf tc tr tcf trf 0) = true) (hfull : lookE es c r = none → es.size < 4096)
    (hs0 : w.cell? ⟨S, 0, none⟩ = some (.pointer (some ⟨G, 0, none⟩))) (hs1 : w.cell? ⟨S, 1, none⟩ = some (.pointer (some ⟨L, 0, none⟩))) (hS : w.oldB S = true)
    (hg : w.cell? ⟨G, 0, none⟩ = some (.map (some MG))) (hgl : w.oldB G = true) (hm : w.mapAt MG = some (es, ck)) (hml : w.oldB MG = true) (hk : AddrKeys es)
    (hleaf : lookE es c r = none ∨ ∃ cs : Array Value, lookE es c r = some (.agg cs) ∧ cs.size = 21 ∧ allOne cs.toList = true)
    (hl : w.cell? ⟨L, 0, none⟩ = some (.map (some ML))) (hL : w.oldB L = true) (hlm : w.mapAt ML = some (#[], ckl)) (hML : w.oldB ML = true) (hne : MG ≠ ML) :
    Calls Tryz.prog 34 #[.pointer (some ⟨S, 0, none⟩), .agg #[.int .i64 c, .int .i64 r], .agg #[.int .i64 1, .int .i64 k, .float .f64 x, .string s, .bool b, .int .i64 f, .int .i64 nk, .int .i64 no, .float .f64 nx, .string ns, .bool nb, .int .i64 nf, .int .i64 rc, .int .i64 rr, .bool rcf, .bool rrf, .int .i64 tc, .int .i64 tr, .bool tcf, .bool trf, .slice none 0 0]] w
      fun e w' => e = .returned (.tuple #[]) ∧ ∃ E d, w' = (w.putMap MG (updE es ck c r (.agg #[.int .i64 1, .int .i64 k, .float .f64 (oneF x), .string s, .bool b, .int .i64 f, .int .i64 nk, .int .i64 no, .float .f64 (oneF nx), .string ns, .bool nb, .int .i64 nf, .int .i64 rc, .int .i64 rr, .bool rcf, .bool rrf, .int .i64 tc, .int .i64 tr, .bool tcf, .bool trf, .slice none 0 0])).1 (updE es ck c r (.agg #[.int .i64 1, .int .i64 k, .float .f64 (oneF x), .string s, .bool b, .int .i64 f, .int .i64 nk, .int .i64 no, .float .f64 (oneF nx), .string ns, .bool nb, .int .i64 nf, .int .i64 rc, .int .i64 rr, .bool rcf, .bool rrf, .int .i64 tc, .int .i64 tr, .bool tcf, .bool trf, .slice none 0 0])).2).ext E d := by
  go_enter Tryz.func34, Tryz.ntmps34
  go_wp2_with fail
  go_region_held3 (fun w' => (w'.cell? ⟨S, 0, none⟩ = some (.pointer (some ⟨G, 0, none⟩)) ∧ w'.cell? ⟨S, 1, none⟩ = some (.pointer (some ⟨L, 0, none⟩)) ∧ w'.hasC w.heap.size 2 = true ∧ w'.cellsAt w.heap.size 0 2 = #[.int .i64 c, .int .i64 r]) ∧ w'.hasC (w.heap.size + 1) 21 = true ∧ w'.cellsAt (w.heap.size + 1) 0 21 = #[.int .i64 1, .int .i64 k, .float .f64 x, .string s, .bool b, .int .i64 f, .int .i64 nk, .int .i64 no, .float .f64 nx, .string ns, .bool nb, .int .i64 nf, .int .i64 rc, .int .i64 rr, .bool rcf, .bool rrf, .int .i64 tc, .int .i64 tr, .bool tcf, .bool trf, .slice none 0 0]) (((try dsimp only); (repeat' apply And.intro) <;> go_simp)) (first | (go_at_call 57; refine (grid_Put_plain G MG (es := es) (ck := ck) c r k x s b f nk no nx ns nb nf rc rr rcf rrf tc tr tcf trf _ ha hk2 hv hfull (by go_simp) (by go_simp) (by go_simp) (by go_simp) hk hleaf).mono ?_; rintro e w' ⟨rfl, E1, d1, rfl⟩))
  go_wp2
  go_region_held3 (fun w' => w'.cell? ⟨S, 1, none⟩ = some (.pointer (some ⟨L, 0, none⟩)) ∧ w'.hasC w.heap.size 2 = true ∧ w'.cellsAt w.heap.size 0 2 = #[.int .i64 c, .int .i64 r]) (((try dsimp only); (repeat' apply And.intro) <;> go_simp)) (first | (go_at_call 58; refine (Drop_nil L ML c r (ck := ckl) _ (by go_simp) (by go_simp) (by go_simp) (by go_simp)).mono ?_; rintro e w' ⟨rfl, hbel⟩; obtain ⟨E1, d1, rfl⟩ := ext_of_below hbel; clear hbel))
  go_wp2
  go_end0
  exact ⟨rfl, ext_of_below (by repeat (first | (with_reducible exact Below.refl _ _) | (with_reducible refine Below.drew ?_) | (with_reducible refine below_drewN ?_ _) | (with_reducible refine below_ext _ _ _ ?_ ?_) | (with_reducible refine Below.alloc ?_ ?_ _) | (with_reducible refine Below.setCell ?_ ?_ _) | (with_reducible refine below_putMap ?_ ?_ _ _) | assumption | (focus (simp; done)) | (focus (simp; omega)) | (focus omega) | refine below_tr (by assumption) (by simp <;> omega) ?_))⟩

set_option maxHeartbeats 1600000 in
set_option maxRecDepth 20000 in
/-- one cell whose content is plain has no formula -/
theorem formulas_one (S G MG B cp : Nat) {es : Array MapEntry} {ck : Nat} (c r : Int) (k : Int) (x : Nat) (s : ByteArray) (b : Bool) (f : Int) (nk no : Int) (nx : Nat) (ns : ByteArray) (nb : Bool) (nf : Int) (rc rr : Int) (rcf rrf : Bool) (tc tr : Int) (tcf trf : Bool) (w : World)
    (hs0 : w.cell? ⟨S, 0, none⟩ = some (.pointer (some ⟨G, 0, none⟩))) (hS : w.oldB S = true)
    (hg : w.cell? ⟨G, 0, none⟩ = some (.map (some MG))) (hgl : w.oldB G = true) (hm : w.mapAt MG = some (es, ck)) (hml : w.oldB MG = true) (hk : AddrKeys es)
    (hlk : lookE es c r = some (.agg #[.int .i64 1, .int .i64 k, .float .f64 x, .string s, .bool b, .int .i64 f, .int .i64 nk, .int .i64 no, .float .f64 nx, .string ns, .bool nb, .int .i64 nf, .int .i64 rc, .int .i64 rr, .bool rcf, .bool rrf, .int .i64 tc, .int .i64 tr, .bool tcf, .bool trf, .slice none 0 0])) (h0 : w.hasC B 2 = true) (h1 : w.cellsAt B 0 2 = #[.int .i64 c, .int .i64 r]) (hb : w.oldB B = true) :
    Calls Tryz.prog 42 #[.pointer (some ⟨S, 0, none⟩), .slice (some ⟨B, 0, none⟩) 1 cp] w
      fun e w' => e = .returned (.slice none 0 0) ∧ Below w.heap.size w w' := by
  go_enter Tryz.func42, Tryz.ntmps42
  go_wp2_with fail
  refine wp_loop_rounds 2 ?_
  rw [rounds_succ]
  go_wp2_with fail
  go_region_held3 (fun w' => w'.cell? ⟨S, 0, none⟩ = some (.pointer (some ⟨G, 0, none⟩)) ∧ w'.hasC w.heap.size 2 = true ∧ w'.cellsAt w.heap.size 0 2 = #[.int .i64 c, .int .i64 r]) (((try dsimp only); (repeat' apply And.intro) <;> go_simp)) (first | (go_at_call 35; refine (grid_Get_some G MG (es := es) (ck := ck) c r 1 k x s b f nk no nx ns nb nf rc rr rcf rrf tc tr tcf trf _ (by go_simp) (by go_simp) (by go_simp) (by go_simp) hk hlk).mono ?_; rintro e w' ⟨rfl, hbel⟩; obtain ⟨E1, d1, rfl⟩ := ext_of_below hbel; clear hbel))
  go_wp2
  rw [rounds_succ]
  go_wp2
  go_ret
  exact ⟨rfl, (by repeat (first | (with_reducible exact Below.refl _ _) | (with_reducible refine Below.drew ?_) | (with_reducible refine below_drewN ?_ _) | (with_reducible refine below_ext _ _ _ ?_ ?_) | (with_reducible refine Below.alloc ?_ ?_ _) | (with_reducible refine Below.setCell ?_ ?_ _) | (with_reducible refine below_putMap ?_ ?_ _ _) | assumption | (focus (simp; done)) | (focus (simp; omega)) | (focus omega) | refine below_tr (by assumption) (by simp <;> omega) ?_))⟩
end Go.Proofs.YtencimimccoofaaGreatDoor
