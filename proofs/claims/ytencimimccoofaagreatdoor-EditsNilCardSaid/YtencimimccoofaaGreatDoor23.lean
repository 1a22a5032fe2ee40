/- Rows of contents: one step on. -/
import Derived.Test.YtencimimccoofaaGreatDoor21
namespace Go.Proofs.YtencimimccoofaaGreatDoor
set_option linter.all false
open Go.RowKit Go.Shelf
attribute [local go_sem ↓] Go.wp_at_zero Go.wp_at_succ

@[go_sem] theorem padded_at0 (v : Value) (zs : Array Value) : (padded #[v] zs)[0]? = some v := by unfold padded; rw [Array.getElem?_append_left (by simp)]; rfl

set_option maxHeartbeats 0 in
set_option maxRecDepth 20000 in
/-- the contents are the same: no step -/
theorem step_same (K g1 g2 m1 m2 : Nat) (c r : Int) (k1 : Int) (x1 : Nat) (s1 : ByteArray) (b1 : Bool) (f1 : Int) (nk1 no1 : Int) (nx1 : Nat) (ns1 : ByteArray) (nb1 : Bool) (nf1 : Int) (rc1 rr1 : Int) (rcf1 rrf1 : Bool) (tc1 tr1 : Int) (tcf1 trf1 : Bool) (k2 : Int) (x2 : Nat) (s2 : ByteArray) (b2 : Bool) (f2 : Int) (nk2 no2 : Int) (nx2 : Nat) (ns2 : ByteArray) (nb2 : Bool) (nf2 : Int) (rc2 rr2 : Int) (rcf2 rrf2 : Bool) (tc2 tr2 : Int) (tcf2 trf2 : Bool) (b ck1 : Nat) {es2 : Array MapEntry} {ck2 : Nat} (w : World) (hk0 : w.cell? ⟨K, 0, none⟩ = some (.pointer (some ⟨g1, 0, none⟩)))
    (hg1 : w.cell? ⟨g1, 0, none⟩ = some (.map (some m1))) (hg2 : w.cell? ⟨g2, 0, none⟩ = some (.map (some m2))) (hgo1 : w.oldB g1 = true) (hgo2 : w.oldB g2 = true)
    (h1 : w.mapAt m1 = some (#[{ key := .agg #[.int .i64 c, .int .i64 r], val := .agg #[.int .i64 1, .int .i64 k1, .float .f64 x1, .string s1, .bool b1, .int .i64 f1, .int .i64 nk1, .int .i64 no1, .float .f64 nx1, .string ns1, .bool nb1, .int .i64 nf1, .int .i64 rc1, .int .i64 rr1, .bool rcf1, .bool rrf1, .int .i64 tc1, .int .i64 tr1, .bool tcf1, .bool trf1, .slice none 0 0], born := b }], ck1)) (hm1 : w.oldB m1 = true) (hb : b < ck1)
    (h2 : w.mapAt m2 = some (es2, ck2)) (hm2 : w.oldB m2 = true) (ak2 : AddrKeys es2) (hsz : es2.size = 1) (hl : lookE es2 c r = some (.agg #[.int .i64 1, .int .i64 k2, .float .f64 x2, .string s2, .bool b2, .int .i64 f2, .int .i64 nk2, .int .i64 no2, .float .f64 nx2, .string ns2, .bool nb2, .int .i64 nf2, .int .i64 rc2, .int .i64 rr2, .bool rcf2, .bool rrf2, .int .i64 tc2, .int .i64 tr2, .bool tcf2, .bool trf2, .slice none 0 0]))
    (hs : (valOrd k1 x1 s1 b1 f1 k2 x2 s2 b2 f2 == 0) = true) :
    Calls Tryz.prog 21 #[.pointer (some ⟨K, 0, none⟩), .pointer (some ⟨g2, 0, none⟩)] w
      fun e w' => e = .returned (.tuple #[]) ∧ Below w.heap.size w w' := by
  go_enter Tryz.func21, Tryz.ntmps21
  go_wp2_with fail
  go_at_call 39
  refine (grid_Equal_one g1 g2 m1 m2 c r k1 x1 s1 b1 f1 nk1 no1 nx1 ns1 nb1 nf1 rc1 rr1 rcf1 rrf1 tc1 tr1 tcf1 trf1 k2 x2 s2 b2 f2 nk2 no2 nx2 ns2 nb2 nf2 rc2 rr2 rcf2 rrf2 tc2 tr2 tcf2 trf2 b ck1 (es2 := es2) (ck2 := ck2) _ hg1 hg2 hgo1 hgo2 h1 hm1 hb h2 hm2 ak2 hsz hl hs).mono ?_
  rintro e w' ⟨rfl, hB⟩
  go_wp2
  exact bodyPost_ret (results_none rfl _ _ _) rfl ⟨rfl, hB⟩

set_option maxHeartbeats 0 in
set_option maxRecDepth 20000 in
/-- other contents: a step, the first one -/
theorem step_new (K g1 g2 m1 m2 : Nat) {es1 es2 : Array MapEntry} {ck1 ck2 : Nat} (v2 : Value) (w : World) (hK : w.oldB K = true) (hk0 : w.cell? ⟨K, 0, none⟩ = some (.pointer (some ⟨g1, 0, none⟩)))
    (hk1 : w.cell? ⟨K, 1, none⟩ = some (.slice none 0 0)) (hk2 : w.cell? ⟨K, 2, none⟩ = some v2) (hz0 : w.frozen? ⟨K, 0, none⟩ = false) (hz1 : w.frozen? ⟨K, 1, none⟩ = false) (hz2 : w.frozen? ⟨K, 2, none⟩ = false)
    (hg1 : w.cell? ⟨g1, 0, none⟩ = some (.map (some m1))) (hg2 : w.cell? ⟨g2, 0, none⟩ = some (.map (some m2)))
    (h1 : w.mapAt m1 = some (es1, ck1)) (h2 : w.mapAt m2 = some (es2, ck2)) (ak1 : AddrKeys es1) (ak2 : AddrKeys es2) (hne : ((es1.size : Int) != (es2.size : Int)) = true) :
    Calls Tryz.prog 21 #[.pointer (some ⟨K, 0, none⟩), .pointer (some ⟨g2, 0, none⟩)] w
      fun e w' => e = .returned (.tuple #[]) ∧ ∃ n cp, 1 ≤ cp ∧ w.heap.size ≤ n ∧ w'.oldB n = true ∧ w'.cell? ⟨n, 0, none⟩ = some (.pointer (some ⟨g1, 0, none⟩)) ∧
        ∃ E d, w' = (((w.setCell ⟨K, 0, none⟩ (.pointer (some ⟨g2, 0, none⟩))).setCell ⟨K, 1, none⟩ (.slice (some ⟨n, 0, none⟩) 1 cp)).setCell ⟨K, 2, none⟩ (.slice none 0 0)).ext E d := by
  have hgc := fun (W : World) (n c : Nat) (t : TypeId) => grownCap_ge W n c t
  go_enter Tryz.func21, Tryz.ntmps21
  go_wp2_with fail
  go_at_call 39
  refine (grid_Equal_size g1 g2 m1 m2 (es1 := es1) (es2 := es2) (ck1 := ck1) (ck2 := ck2) _ hg1 hg2 h1 h2 ak1 ak2 hne).mono ?_
  rintro e w' ⟨rfl, hB⟩
  obtain ⟨E, d, rfl⟩ := ext_of_below hB
  clear hB
  go_wp2_with fail
  go_region_law (fail)
  all_goals
    go_wp2_with fail
    go_end0
    refine ⟨rfl, _, _, ?_, ?_, ?_, ?_, ext_of_below (by repeat (first | (with_reducible exact Below.refl _ _) | (with_reducible refine Below.drew ?_) | (with_reducible refine below_drewN ?_ _) | (with_reducible refine below_ext _ _ _ ?_ ?_) | (with_reducible refine Below.alloc ?_ ?_ _) | (with_reducible refine Below.setCell ?_ ?_ _) | (with_reducible refine below_putMap ?_ ?_ _ _) | assumption | (focus (simp; done)) | (focus (simp; omega)) | (focus omega) | refine below_tr (by assumption) (by simp <;> omega) ?_))⟩
    · exact hgc _ _ _ _
    · first | omega | (simp; omega)
    · go_simp
    · go_simp
end Go.Proofs.YtencimimccoofaaGreatDoor
