/- Grids that are equal. -/
import Derived.Test.YtencimimccoofaaGreatDoor9
namespace Go.Proofs.YtencimimccoofaaGreatDoor
open Go.RowKit

def cloneW (w : World) (es : Array MapEntry) (ck : Nat) : World := (w.alloc (.map es ck)).alloc (.cells #[.map (some w.heap.size)] 66)
@[simp] theorem size_cloneW (w : World) (es : Array MapEntry) (ck : Nat) : (cloneW w es ck).heap.size = w.heap.size + 2 := by simp [cloneW]

theorem grid_Clone (g m : Nat) {es : Array MapEntry} {ck : Nat} (w : World) (hg : w.cell? ⟨g, 0, none⟩ = some (.map (some m))) (hm : w.mapAt m = some (es, ck)) :
    Calls Tryz.prog 24 #[.pointer (some ⟨g, 0, none⟩)] w
      fun e w' => e = .returned (.pointer (some ⟨w.heap.size + 1, 0, none⟩)) ∧ w' = cloneW w es ck := by
  go_enter Tryz.func24, Tryz.ntmps24
  go_wp2_with (go_at_call 43; refine (maps_Clone m (es := es) (ck := ck) _ hm).mono ?_; rintro e w' ⟨rfl, rfl⟩)
  go_ret
  exact ⟨rfl, rfl⟩

theorem EqualFunc_size (m1 m2 : Nat) {es1 es2 : Array MapEntry} {ck1 ck2 : Nat} (v : Value) (w : World) (h1 : w.mapAt m1 = some (es1, ck1)) (h2 : w.mapAt m2 = some (es2, ck2)) (k1 : AddrKeys es1) (k2 : AddrKeys es2)
    (hne : ((es1.size : Int) != (es2.size : Int)) = true) :
    Calls Tryz.prog 69 #[.map (some m1), .map (some m2), v] w
      fun e w' => e = .returned (.bool false) ∧ w = w' := by
  go_enter Tryz.func69, Tryz.ntmps69
  go_wp2
  go_ret
  exact ⟨rfl, rfl⟩
theorem run_next_one {P : Program} {w : World} {n m s : Nat} {c : Nat} {e : MapEntry} {ck : Nat} (hi : w.itAt n = some (some m, s, #[], c)) (hm : w.mapAt m = some (#[e], ck))
    (hs : e.born < s) (ty : TypeId) :
    (Instr.next (.pointer (some ⟨n, 0, none⟩)) false ty).run P w = .ok (.tuple #[.bool true, e.key, e.val]) (w.putIt n #[e.born] ck) := by
  have hold : (#[e] : Array MapEntry).filter (fun e => decide (e.born < s)) = #[e] := by simp [hs]
  have hnew : (#[e] : Array MapEntry).filter (fun e => decide (e.born ≥ s)) = #[] := by simp; omega
  have hall : (#[e] : Array MapEntry).filter (fun e => !(#[] : Array Nat).contains e.born) = #[e] := by simp
  simp only [Instr.next, Sem.run_bind, run_getIt hi, Result.andThen_ok, run_getMap hm]
  have h0 : (!(#[] : Array Nat).isEmpty && !(#[e] : Array MapEntry).isEmpty && (#[e] : Array MapEntry).all (fun e => decide (e.born ≥ c))) = false := by simp
  rw [h0]
  simp only [Bool.false_eq_true, if_false, hall, hold, hnew]
  have hf : (Question.mapNext ((if (#[e] : Array MapEntry).isEmpty = true then #[none] else #[]) ++ ((#[e] : Array MapEntry) ++ (#[] : Array MapEntry)).map some).size).forced = true := by simp [Question.forced]
  rw [Sem.run_bind, run_choose_forced hf]
  simp [run_setIt hi]
theorem run_entry_one {P : Program} {w : World} {n m s : Nat} {c : Nat} {e : MapEntry} (hi : w.itAt n = some (some m, s, #[e.born], c)) (hm : w.mapAt m = some (#[e], c)) :
    (Instr.entry (.pointer (some ⟨n, 0, none⟩))).run P w = .ok (.tuple #[e.key, e.val]) w := by
  simp [Instr.entry, run_getIt hi, run_getMap hm, Result.andThen]
theorem run_next_one_over {P : Program} {w : World} {n m s : Nat} {c : Nat} {e : MapEntry} {ck : Nat} (hi : w.itAt n = some (some m, s, #[e.born], c)) (hm : w.mapAt m = some (#[e], ck)) (hc : e.born < c) (ty : TypeId) :
    (Instr.next (.pointer (some ⟨n, 0, none⟩)) false ty).run P w = .ok (.tuple #[.bool false]) w :=
  run_next_over hi hm (by simp [hc]) (by simp [leftE]) ty
set_option maxHeartbeats 1600000 in
set_option maxRecDepth 20000 in
theorem EqualFunc_one (m1 m2 : Nat) (c r : Int) (k1 : Int) (x1 : Nat) (s1 : ByteArray) (b1 : Bool) (f1 : Int) (nk1 no1 : Int) (nx1 : Nat) (ns1 : ByteArray) (nb1 : Bool) (nf1 : Int) (rc1 rr1 : Int) (rcf1 rrf1 : Bool) (tc1 tr1 : Int) (tcf1 trf1 : Bool) (k2 : Int) (x2 : Nat) (s2 : ByteArray) (b2 : Bool) (f2 : Int) (nk2 no2 : Int) (nx2 : Nat) (ns2 : ByteArray) (nb2 : Bool) (nf2 : Int) (rc2 rr2 : Int) (rcf2 rrf2 : Bool) (tc2 tr2 : Int) (tcf2 trf2 : Bool) (b ck1 : Nat) {es2 : Array MapEntry} {ck2 : Nat} (w : World)
    (h1 : w.mapAt m1 = some (#[{ key := .agg #[.int .i64 c, .int .i64 r], val := .agg #[.int .i64 1, .int .i64 k1, .float .f64 x1, .string s1, .bool b1, .int .i64 f1, .int .i64 nk1, .int .i64 no1, .float .f64 nx1, .string ns1, .bool nb1, .int .i64 nf1, .int .i64 rc1, .int .i64 rr1, .bool rcf1, .bool rrf1, .int .i64 tc1, .int .i64 tr1, .bool tcf1, .bool trf1, .slice none 0 0], born := b }], ck1)) (hm1 : w.oldB m1 = true) (hb : b < ck1)
    (h2 : w.mapAt m2 = some (es2, ck2)) (hm2 : w.oldB m2 = true) (ak2 : AddrKeys es2) (hsz : es2.size = 1) (hl : lookE es2 c r = some (.agg #[.int .i64 1, .int .i64 k2, .float .f64 x2, .string s2, .bool b2, .int .i64 f2, .int .i64 nk2, .int .i64 no2, .float .f64 nx2, .string ns2, .bool nb2, .int .i64 nf2, .int .i64 rc2, .int .i64 rr2, .bool rcf2, .bool rrf2, .int .i64 tc2, .int .i64 tr2, .bool tcf2, .bool trf2, .slice none 0 0]))
    (hs : (valOrd k1 x1 s1 b1 f1 k2 x2 s2 b2 f2 == 0) = true) :
    Calls Tryz.prog 69 #[.map (some m1), .map (some m2), .func (.func 50) #[] #[]] w
      fun e w' => e = .returned (.bool true) ∧ Below w.heap.size w w' := by
  have ak1 : AddrKeys #[{ key := .agg #[.int .i64 c, .int .i64 r], val := .agg #[.int .i64 1, .int .i64 k1, .float .f64 x1, .string s1, .bool b1, .int .i64 f1, .int .i64 nk1, .int .i64 no1, .float .f64 nx1, .string ns1, .bool nb1, .int .i64 nf1, .int .i64 rc1, .int .i64 rr1, .bool rcf1, .bool rrf1, .int .i64 tc1, .int .i64 tr1, .bool tcf1, .bool trf1, .slice none 0 0], born := b }] := by intro e he; simp at he; subst he; exact ⟨c, r, rfl⟩
  have hsz1 : ((es2.size : Int) == 1) = true := by simp [hsz]
  have hsz2 : ((1 : Int) != (es2.size : Int)) = false := by simp [hsz]
  have n1 : ∀ ty, (Instr.next (.pointer (some ⟨w.heap.size, 0, none⟩)) false ty).run Tryz.prog (w.alloc (.mapIter (some m1) ck1 #[] ck1)) = .ok (.tuple #[.bool true, .agg #[.int .i64 c, .int .i64 r], .agg #[.int .i64 1, .int .i64 k1, .float .f64 x1, .string s1, .bool b1, .int .i64 f1, .int .i64 nk1, .int .i64 no1, .float .f64 nx1, .string ns1, .bool nb1, .int .i64 nf1, .int .i64 rc1, .int .i64 rr1, .bool rcf1, .bool rrf1, .int .i64 tc1, .int .i64 tr1, .bool tcf1, .bool trf1, .slice none 0 0]]) (w.alloc (.mapIter (some m1) ck1 #[b] ck1)) := by
    intro ty
    rw [run_next_one (m := m1) (s := ck1) (c := ck1) (e := { key := .agg #[.int .i64 c, .int .i64 r], val := .agg #[.int .i64 1, .int .i64 k1, .float .f64 x1, .string s1, .bool b1, .int .i64 f1, .int .i64 nk1, .int .i64 no1, .float .f64 nx1, .string ns1, .bool nb1, .int .i64 nf1, .int .i64 rc1, .int .i64 rr1, .bool rcf1, .bool rrf1, .int .i64 tc1, .int .i64 tr1, .bool tcf1, .bool trf1, .slice none 0 0], born := b }) (ck := ck1) (by go_simp) (by go_simp) hb ty, putIt_alloc_at _ _ _ _ _ _ _ _ rfl]
  have n2 : (Instr.entry (.pointer (some ⟨w.heap.size, 0, none⟩))).run Tryz.prog (w.alloc (.mapIter (some m1) ck1 #[b] ck1)) = .ok (.tuple #[.agg #[.int .i64 c, .int .i64 r], .agg #[.int .i64 1, .int .i64 k1, .float .f64 x1, .string s1, .bool b1, .int .i64 f1, .int .i64 nk1, .int .i64 no1, .float .f64 nx1, .string ns1, .bool nb1, .int .i64 nf1, .int .i64 rc1, .int .i64 rr1, .bool rcf1, .bool rrf1, .int .i64 tc1, .int .i64 tr1, .bool tcf1, .bool trf1, .slice none 0 0]]) (w.alloc (.mapIter (some m1) ck1 #[b] ck1)) := 
    run_entry_one (m := m1) (s := ck1) (c := ck1) (e := { key := .agg #[.int .i64 c, .int .i64 r], val := .agg #[.int .i64 1, .int .i64 k1, .float .f64 x1, .string s1, .bool b1, .int .i64 f1, .int .i64 nk1, .int .i64 no1, .float .f64 nx1, .string ns1, .bool nb1, .int .i64 nf1, .int .i64 rc1, .int .i64 rr1, .bool rcf1, .bool rrf1, .int .i64 tc1, .int .i64 tr1, .bool tcf1, .bool trf1, .slice none 0 0], born := b }) (by go_simp) (by go_simp)
  have n3 : ∀ W : World, W.itAt w.heap.size = some (some m1, ck1, #[b], ck1) → W.mapAt m1 = some (#[{ key := .agg #[.int .i64 c, .int .i64 r], val := .agg #[.int .i64 1, .int .i64 k1, .float .f64 x1, .string s1, .bool b1, .int .i64 f1, .int .i64 nk1, .int .i64 no1, .float .f64 nx1, .string ns1, .bool nb1, .int .i64 nf1, .int .i64 rc1, .int .i64 rr1, .bool rcf1, .bool rrf1, .int .i64 tc1, .int .i64 tr1, .bool tcf1, .bool trf1, .slice none 0 0], born := b }], ck1) → ∀ ty, (Instr.next (.pointer (some ⟨w.heap.size, 0, none⟩)) false ty).run Tryz.prog W = .ok (.tuple #[.bool false]) W := 
    fun W hi hm ty => run_next_one_over (m := m1) (s := ck1) (c := ck1) (e := { key := .agg #[.int .i64 c, .int .i64 r], val := .agg #[.int .i64 1, .int .i64 k1, .float .f64 x1, .string s1, .bool b1, .int .i64 f1, .int .i64 nk1, .int .i64 no1, .float .f64 nx1, .string ns1, .bool nb1, .int .i64 nf1, .int .i64 rc1, .int .i64 rr1, .bool rcf1, .bool rrf1, .int .i64 tc1, .int .i64 tr1, .bool tcf1, .bool trf1, .slice none 0 0], born := b }) hi hm hb ty
  go_enter Tryz.func69, Tryz.ntmps69
  go_wp2_with fail
  refine wp_loop_rounds 2 ?_
  rw [rounds_succ]
  go_wp2_with (go_at_call 50; refine (grid_Same_plain _ _ _ _ _ _ _ _ _ _ _ _ _ _ _ _ _ _ _ _ _ _ _ _ _ _ _ _ _ _ _ _ _ _ _ _ _ _ _).mono ?_; rintro e w' ⟨rfl, hbel⟩; obtain ⟨E1, d1, rfl⟩ := ext_of_below hbel; clear hbel)
  rw [rounds_succ]
  go_wp2
  go_ret
  exact ⟨rfl, (by repeat (first | (with_reducible exact Below.refl _ _) | (with_reducible refine Below.drew ?_) | (with_reducible refine below_drewN ?_ _) | (with_reducible refine below_ext _ _ _ ?_ ?_) | (with_reducible refine Below.alloc ?_ ?_ _) | (with_reducible refine Below.setCell ?_ ?_ _) | (with_reducible refine below_putMap ?_ ?_ _ _) | assumption | (focus (simp; done)) | (focus (simp; omega)) | (focus omega) | refine below_tr (by assumption) (by simp <;> omega) ?_))⟩

theorem grid_Equal_size (g1 g2 m1 m2 : Nat) {es1 es2 : Array MapEntry} {ck1 ck2 : Nat} (w : World) (hg1 : w.cell? ⟨g1, 0, none⟩ = some (.map (some m1))) (hg2 : w.cell? ⟨g2, 0, none⟩ = some (.map (some m2)))
    (h1 : w.mapAt m1 = some (es1, ck1)) (h2 : w.mapAt m2 = some (es2, ck2)) (ak1 : AddrKeys es1) (ak2 : AddrKeys es2) (hne : ((es1.size : Int) != (es2.size : Int)) = true) :
    Calls Tryz.prog 39 #[.pointer (some ⟨g1, 0, none⟩), .pointer (some ⟨g2, 0, none⟩)] w
      fun e w' => e = .returned (.bool false) ∧ Below w.heap.size w w' := by
  go_enter Tryz.func39, Tryz.ntmps39
  go_wp2_with fail
  go_region_held3 (fun w' => w'.cell? ⟨g1, 0, none⟩ = some (.map (some m1)) ∧ w'.cell? ⟨g2, 0, none⟩ = some (.map (some m2)) ∧ w'.mapAt m1 = some (es1, ck1) ∧ w'.mapAt m2 = some (es2, ck2)) (((try dsimp only); (repeat' apply And.intro) <;> go_simp)) (first | (go_at_call 69; refine (EqualFunc_size m1 m2 (es1 := es1) (es2 := es2) (ck1 := ck1) (ck2 := ck2) _ _ (by go_simp) (by go_simp) ak1 ak2 hne).mono ?_; rintro e w' ⟨rfl, rfl⟩))
  go_wp2
  go_ret
  exact ⟨rfl, (by repeat (first | (with_reducible exact Below.refl _ _) | (with_reducible refine Below.drew ?_) | (with_reducible refine below_drewN ?_ _) | (with_reducible refine below_ext _ _ _ ?_ ?_) | (with_reducible refine Below.alloc ?_ ?_ _) | (with_reducible refine Below.setCell ?_ ?_ _) | (with_reducible refine below_putMap ?_ ?_ _ _) | assumption | (focus (simp; done)) | (focus (simp; omega)) | (focus omega) | refine below_tr (by assumption) (by simp <;> omega) ?_))⟩

set_option maxRecDepth 20000 in
theorem grid_Equal_one (g1 g2 m1 m2 : Nat) (c r : Int) (k1 : Int) (x1 : Nat) (s1 : ByteArray) (b1 : Bool) (f1 : Int) (nk1 no1 : Int) (nx1 : Nat) (ns1 : ByteArray) (nb1 : Bool) (nf1 : Int) (rc1 rr1 : Int) (rcf1 rrf1 : Bool) (tc1 tr1 : Int) (tcf1 trf1 : Bool) (k2 : Int) (x2 : Nat) (s2 : ByteArray) (b2 : Bool) (f2 : Int) (nk2 no2 : Int) (nx2 : Nat) (ns2 : ByteArray) (nb2 : Bool) (nf2 : Int) (rc2 rr2 : Int) (rcf2 rrf2 : Bool) (tc2 tr2 : Int) (tcf2 trf2 : Bool) (b ck1 : Nat) {es2 : Array MapEntry} {ck2 : Nat} (w : World) (hg1 : w.cell? ⟨g1, 0, none⟩ = some (.map (some m1))) (hg2 : w.cell? ⟨g2, 0, none⟩ = some (.map (some m2))) (hgo1 : w.oldB g1 = true) (hgo2 : w.oldB g2 = true)
    (h1 : w.mapAt m1 = some (#[{ key := .agg #[.int .i64 c, .int .i64 r], val := .agg #[.int .i64 1, .int .i64 k1, .float .f64 x1, .string s1, .bool b1, .int .i64 f1, .int .i64 nk1, .int .i64 no1, .float .f64 nx1, .string ns1, .bool nb1, .int .i64 nf1, .int .i64 rc1, .int .i64 rr1, .bool rcf1, .bool rrf1, .int .i64 tc1, .int .i64 tr1, .bool tcf1, .bool trf1, .slice none 0 0], born := b }], ck1)) (hm1 : w.oldB m1 = true) (hb : b < ck1)
    (h2 : w.mapAt m2 = some (es2, ck2)) (hm2 : w.oldB m2 = true) (ak2 : AddrKeys es2) (hsz : es2.size = 1) (hl : lookE es2 c r = some (.agg #[.int .i64 1, .int .i64 k2, .float .f64 x2, .string s2, .bool b2, .int .i64 f2, .int .i64 nk2, .int .i64 no2, .float .f64 nx2, .string ns2, .bool nb2, .int .i64 nf2, .int .i64 rc2, .int .i64 rr2, .bool rcf2, .bool rrf2, .int .i64 tc2, .int .i64 tr2, .bool tcf2, .bool trf2, .slice none 0 0]))
    (hs : (valOrd k1 x1 s1 b1 f1 k2 x2 s2 b2 f2 == 0) = true) :
    Calls Tryz.prog 39 #[.pointer (some ⟨g1, 0, none⟩), .pointer (some ⟨g2, 0, none⟩)] w
      fun e w' => e = .returned (.bool true) ∧ Below w.heap.size w w' := by
  go_enter Tryz.func39, Tryz.ntmps39
  go_wp2_with fail
  go_region_held3 (fun w' => w'.cell? ⟨g1, 0, none⟩ = some (.map (some m1)) ∧ w'.cell? ⟨g2, 0, none⟩ = some (.map (some m2))) (((try dsimp only); (repeat' apply And.intro) <;> go_simp)) (first | (go_at_call 69; refine (EqualFunc_one m1 m2 c r k1 x1 s1 b1 f1 nk1 no1 nx1 ns1 nb1 nf1 rc1 rr1 rcf1 rrf1 tc1 tr1 tcf1 trf1 k2 x2 s2 b2 f2 nk2 no2 nx2 ns2 nb2 nf2 rc2 rr2 rcf2 rrf2 tc2 tr2 tcf2 trf2 b ck1 (es2 := es2) (ck2 := ck2) _ (by go_simp) (by go_simp) hb (by go_simp) (by go_simp) ak2 hsz hl hs).mono ?_; rintro e w' ⟨rfl, hbel⟩; obtain ⟨E1, d1, rfl⟩ := ext_of_below hbel; clear hbel))
  go_wp2
  go_ret
  exact ⟨rfl, (by repeat (first | (with_reducible exact Below.refl _ _) | (with_reducible refine Below.drew ?_) | (with_reducible refine below_drewN ?_ _) | (with_reducible refine below_ext _ _ _ ?_ ?_) | (with_reducible refine Below.alloc ?_ ?_ _) | (with_reducible refine Below.setCell ?_ ?_ _) | (with_reducible refine below_putMap ?_ ?_ _ _) | assumption | (focus (simp; done)) | (focus (simp; omega)) | (focus omega) | refine below_tr (by assumption) (by simp <;> omega) ?_))⟩
end Go.Proofs.YtencimimccoofaaGreatDoor
