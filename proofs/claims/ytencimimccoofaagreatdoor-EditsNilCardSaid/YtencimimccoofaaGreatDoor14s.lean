/- A sheet of plain contents: working out one cell. -/
import Derived.Test.YtencimimccoofaaGreatDoor14
namespace Go.Proofs.YtencimimccoofaaGreatDoor
set_option linter.all false
open Go.RowKit
set_option maxHeartbeats 0 in
set_option maxRecDepth 20000 in
theorem work_same (S G MG L ML SH B cp : Nat) {es sh : Array MapEntry} {ck cks ckl : Nat} (c r : Int) (x : Nat) (s : ByteArray) (b : Bool) (f : Int) (nk no : Int) (nx : Nat) (ns : ByteArray) (nb : Bool) (nf : Int) (rc rr : Int) (rcf rrf : Bool) (tc tr : Int) (tcf trf : Bool) (v3 v4 : Value) (k1 : Int) (x1 : Nat) (s1 : ByteArray) (b1 : Bool) (f1 : Int) (w : World)
    (hs0 : w.cell? ⟨S, 0, none⟩ = some (.pointer (some ⟨G, 0, none⟩))) (hs1 : w.cell? ⟨S, 1, none⟩ = some (.pointer (some ⟨L, 0, none⟩))) (hs2 : w.cell? ⟨S, 2, none⟩ = some (.map (some SH)))
    (hs3 : w.cell? ⟨S, 3, none⟩ = some v3) (hs4 : w.cell? ⟨S, 4, none⟩ = some v4) (hS : w.oldB S = true) (hz3 : w.frozen? ⟨S, 3, none⟩ = false) (hz4 : w.frozen? ⟨S, 4, none⟩ = false)
    (hg : w.cell? ⟨G, 0, none⟩ = some (.map (some MG))) (hgl : w.oldB G = true) (hm : w.mapAt MG = some (es, ck)) (hml : w.oldB MG = true) (hk : AddrKeys es) (hlk : lookE es c r = some (.agg #[.int .i64 1, .int .i64 1, .float .f64 x, .string s, .bool b, .int .i64 f, .int .i64 nk, .int .i64 no, .float .f64 nx, .string ns, .bool nb, .int .i64 nf, .int .i64 rc, .int .i64 rr, .bool rcf, .bool rrf, .int .i64 tc, .int .i64 tr, .bool tcf, .bool trf, .slice none 0 0]))
    (hsm : w.mapAt SH = some (sh, cks)) (hsml : w.oldB SH = true) (hsk : AddrKeys sh) (hsl : lookE sh c r = some (.agg #[.int .i64 k1, .float .f64 x1, .string s1, .bool b1, .int .i64 f1])) (hso : (valOrd k1 x1 s1 b1 f1 1 (oneF (oneF x)) ⟨#[]⟩ false 0 == 0) = true)
    (hl : w.cell? ⟨L, 0, none⟩ = some (.map (some ML))) (hL : w.oldB L = true) (hlm : w.mapAt ML = some (#[], ckl)) (hML : w.oldB ML = true) (hne : SH ≠ ML)
    (h0 : w.hasC B 2 = true) (h1 : w.cellsAt B 0 2 = #[.int .i64 c, .int .i64 r]) (hB : w.oldB B = true)
    (hSG : S ≠ G) (hSL : S ≠ L) (hSB : S ≠ B) (hGM : SH ≠ MG) :
    Calls Tryz.prog 38 #[.pointer (some ⟨S, 0, none⟩), .slice (some ⟨B, 0, none⟩) 1 cp] w
      fun e w' => e = .returned (.tuple #[]) ∧ ∃ E d, w' = ((w.setCell ⟨S, 3, none⟩ (.slice none 0 0)).setCell ⟨S, 4, none⟩ (.slice none 0 0)).ext E d := by
  go_enter Tryz.func38, Tryz.ntmps38
  go_wp2_with fail
  refine wp_loop_rounds 2 ?_
  rw [rounds_succ]
  go_wp2_with fail
  go_region_held3 (fun w' => w'.cell? ⟨S, 0, none⟩ = some (.pointer (some ⟨G, 0, none⟩)) ∧ w'.hasC (w.heap.size + 1) 2 = true ∧ w'.cellsAt (w.heap.size + 1) 0 2 = #[.int .i64 c, .int .i64 r]) (((try dsimp only); (repeat' apply And.intro) <;> go_simp)) (first | (go_at_call 35; refine (grid_Get_some G MG (es := es) (ck := ck) c r 1 1 x s b f nk no nx ns nb nf rc rr rcf rrf tc tr tcf trf _ (by go_simp) (by go_simp) (by go_simp) (by go_simp) hk hlk).mono ?_; rintro e w' ⟨rfl, hbel⟩; obtain ⟨E1, d1, rfl⟩ := ext_of_below hbel; clear hbel))
  all_goals
    go_wp2_with (first | (go_at_call 65; refine (show_same S SH _ (sh := sh) (cks := cks) c r (oneF x) s b f k1 x1 s1 b1 f1 _ (by go_simp) (by go_simp) (by go_simp) (by go_simp) hsk hsl hso).mono ?_; rintro e w' ⟨rfl, hbel⟩; obtain ⟨E1, d1, rfl⟩ := ext_of_below hbel; clear hbel))
    rw [rounds_succ]
    go_wp2_with fail
    go_region_held3 (fun w' => w'.cell? ⟨S, 0, none⟩ = some (.pointer (some ⟨G, 0, none⟩)) ∧ w'.cell? ⟨S, 1, none⟩ = some (.pointer (some ⟨L, 0, none⟩))) (((try dsimp only); (repeat' apply And.intro) <;> go_simp)) (first | (go_at_call 37; refine (Above_nil L ML B cp c r (ck := ckl) _ (by go_simp) (by go_simp) (by go_simp) (by go_simp) (by go_simp) (by go_simp) (by go_simp)).mono ?_; rintro e w' ⟨rfl, hbel⟩; obtain ⟨E1, d1, rfl⟩ := ext_of_below hbel; clear hbel) | (go_at_call 66; refine (Concat_one _ B cp _ c r _ (by go_simp) (by go_simp) (by go_simp) (by go_simp) (by go_simp) (by go_simp)).mono ?_; rintro e w' ⟨rfl, rfl⟩) | (go_at_call 42; refine (formulas_one S G MG _ _ (es := es) (ck := ck) c r 1 x s b f nk no nx ns nb nf rc rr rcf rrf tc tr tcf trf _ (by go_simp) (by go_simp) (by go_simp) (by go_simp) (by go_simp) (by go_simp) hk hlk (by go_simp) (by go_simp) (by go_simp)).mono ?_; rintro e w' ⟨rfl, hbel⟩; obtain ⟨E1, d1, rfl⟩ := ext_of_below hbel; clear hbel) | (go_at_call 41; refine (Order_nil L _).mono ?_; rintro e w' ⟨rfl, hbel⟩; obtain ⟨E1, d1, rfl⟩ := ext_of_below hbel; clear hbel))
    go_wp2_with fail
    refine wp_loop_rounds 1 ?_
    rw [rounds_succ]
    go_wp2_with fail
    go_at_call 68
    refine (SortFunc_nil _ _).mono ?_
    rintro e w' ⟨rfl, rfl⟩
    go_wp2_with fail
    go_at_call 68
    refine (SortFunc_nil _ _).mono ?_
    rintro e w' ⟨rfl, rfl⟩
    go_wp2_with fail
    go_end0
    exact ⟨rfl, ext_of_below (by repeat (first | (with_reducible exact Below.refl _ _) | (with_reducible refine Below.drew ?_) | (with_reducible refine below_drewN ?_ _) | (with_reducible refine below_ext _ _ _ ?_ ?_) | (with_reducible refine Below.alloc ?_ ?_ _) | (with_reducible refine Below.setCell ?_ ?_ _) | (with_reducible refine below_putMap ?_ ?_ _ _) | assumption | (focus (simp; done)) | (focus (simp; omega)) | (focus omega) | refine below_tr (by assumption) (by simp <;> omega) ?_))⟩
end Go.Proofs.YtencimimccoofaaGreatDoor
