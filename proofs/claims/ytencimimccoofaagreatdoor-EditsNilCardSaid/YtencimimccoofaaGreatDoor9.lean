/- New ones; contents that are the same; copies of a grid. -/
import Derived.Test.YtencimimccoofaaGreatDoor8
import Derived.Laws.Externs
import Derived.MapKept
namespace Go.Proofs.YtencimimccoofaaGreatDoor
open Go.RowKit

/-- the world with a new grid: its block is the second of two -/
def gridW (w : World) : World := (w.alloc (.map #[] 0)).alloc (.cells #[.map (some w.heap.size)] 66)
def linksW (w : World) : World := (w.alloc (.map #[] 0)).alloc (.cells #[.map (some w.heap.size)] 134)
def sheetW (w : World) : World :=
  ((linksW (gridW w)).alloc (.map #[] 0)).alloc (.cells #[.pointer (some ⟨w.heap.size + 1, 0, none⟩), .pointer (some ⟨w.heap.size + 3, 0, none⟩), .map (some (w.heap.size + 4)), .slice none 0 0, .slice none 0 0] 78)

theorem grid_New (w : World) : Calls Tryz.prog 7 #[] w fun e w' => e = .returned (.pointer (some ⟨w.heap.size + 1, 0, none⟩)) ∧ w' = gridW w := by
  go_enter Tryz.func7, Tryz.ntmps7
  go_wp2
  go_ret
  exact ⟨rfl, rfl⟩
theorem links_New (w : World) : Calls Tryz.prog 53 #[] w fun e w' => e = .returned (.pointer (some ⟨w.heap.size + 1, 0, none⟩)) ∧ w' = linksW w := by
  go_enter Tryz.func53, Tryz.ntmps53
  go_wp2
  go_ret
  exact ⟨rfl, rfl⟩
@[simp] theorem size_gridW (w : World) : (gridW w).heap.size = w.heap.size + 2 := by simp [gridW]
@[simp] theorem size_linksW (w : World) : (linksW w).heap.size = w.heap.size + 2 := by simp [linksW]
@[simp] theorem size_sheetW (w : World) : (sheetW w).heap.size = w.heap.size + 6 := by simp [sheetW]

theorem live_New (w : World) : Calls Tryz.prog 31 #[] w fun e w' => e = .returned (.pointer (some ⟨w.heap.size + 5, 0, none⟩)) ∧ w' = sheetW w := by
  go_enter Tryz.func31, Tryz.ntmps31
  go_wp2_with (first | (go_at_call 7; refine (grid_New _).mono ?_; rintro e w' ⟨rfl, rfl⟩) | (go_at_call 53; refine (links_New _).mono ?_; rintro e w' ⟨rfl, rfl⟩))
  go_ret
  exact ⟨rfl, rfl⟩

/-- the world with a new book: its block is the ninth -/
def bookW (w : World) : World :=
  (sheetW (gridW w)).alloc (.cells #[.pointer (some ⟨w.heap.size + 1, 0, none⟩), .slice none 0 0, .slice none 0 0, .pointer (some ⟨w.heap.size + 7, 0, none⟩)] 60)
@[simp] theorem size_bookW (w : World) : (bookW w).heap.size = w.heap.size + 9 := by simp [bookW]
theorem edits_New (w : World) : Calls Tryz.prog 16 #[] w fun e w' => e = .returned (.pointer (some ⟨w.heap.size + 8, 0, none⟩)) ∧ w' = bookW w := by
  go_enter Tryz.func16, Tryz.ntmps16
  go_wp2_with (first | (go_at_call 7; refine (grid_New _).mono ?_; rintro e w' ⟨rfl, rfl⟩) | (go_at_call 31; refine (live_New _).mono ?_; rintro e w' ⟨rfl, rfl⟩))
  go_ret
  exact ⟨rfl, rfl⟩

set_option maxHeartbeats 1600000 in
set_option maxRecDepth 20000 in
theorem grid_Same_plain (k1 : Int) (x1 : Nat) (s1 : ByteArray) (b1 : Bool) (f1 : Int) (nk1 no1 : Int) (nx1 : Nat) (ns1 : ByteArray) (nb1 : Bool) (nf1 : Int) (rc1 rr1 : Int) (rcf1 rrf1 : Bool) (tc1 tr1 : Int) (tcf1 trf1 : Bool) (k2 : Int) (x2 : Nat) (s2 : ByteArray) (b2 : Bool) (f2 : Int) (nk2 no2 : Int) (nx2 : Nat) (ns2 : ByteArray) (nb2 : Bool) (nf2 : Int) (rc2 rr2 : Int) (rcf2 rrf2 : Bool) (tc2 tr2 : Int) (tcf2 trf2 : Bool) (w : World) :
    Calls Tryz.prog 50 #[.agg #[.int .i64 1, .int .i64 k1, .float .f64 x1, .string s1, .bool b1, .int .i64 f1, .int .i64 nk1, .int .i64 no1, .float .f64 nx1, .string ns1, .bool nb1, .int .i64 nf1, .int .i64 rc1, .int .i64 rr1, .bool rcf1, .bool rrf1, .int .i64 tc1, .int .i64 tr1, .bool tcf1, .bool trf1, .slice none 0 0], .agg #[.int .i64 1, .int .i64 k2, .float .f64 x2, .string s2, .bool b2, .int .i64 f2, .int .i64 nk2, .int .i64 no2, .float .f64 nx2, .string ns2, .bool nb2, .int .i64 nf2, .int .i64 rc2, .int .i64 rr2, .bool rcf2, .bool rrf2, .int .i64 tc2, .int .i64 tr2, .bool tcf2, .bool trf2, .slice none 0 0]] w
      fun e w' => e = .returned (.bool (valOrd k1 x1 s1 b1 f1 k2 x2 s2 b2 f2 == 0)) ∧ Below w.heap.size w w' := by
  go_enter Tryz.func50, Tryz.ntmps50
  go_wp2_with (go_at_call 78; refine (value_Same _ _ _ _ _ _ _ _ _ _ _).mono ?_; rintro e w' ⟨rfl, hbel⟩; obtain ⟨E1, d1, rfl⟩ := ext_of_below hbel; clear hbel)
  go_ret
  exact ⟨rfl, (by repeat (first | (with_reducible exact Below.refl _ _) | (with_reducible refine Below.drew ?_) | (with_reducible refine below_drewN ?_ _) | (with_reducible refine below_ext _ _ _ ?_ ?_) | (with_reducible refine Below.alloc ?_ ?_ _) | (with_reducible refine Below.setCell ?_ ?_ _) | (with_reducible refine below_putMap ?_ ?_ _ _) | assumption | (focus (simp; done)) | (focus (simp; omega)) | (focus omega) | refine below_tr (by assumption) (by simp <;> omega) ?_))⟩

@[go_sem] theorem nil_MContent (p : Option Nat) (w : World) : (binOp .eql 64 (.map p) (.map none)).run Tryz.prog w = .ok (.bool p.isNone) w :=
  run_eql_map_nil w _ 24 51 p un_MContent
theorem run_clone {P : Program} {r : Nat} {es : Array MapEntry} {ck : Nat} (t : TypeId) (w : World) (hb : w.mapAt r = some (es, ck)) :
    (Extern.MapsClone.clone #[.iface t (.map (some r))]).run P w = .ok (.iface t (.map (some w.heap.size))) (w.alloc (.map es ck)) := by
  have e : Extern.MapsClone.clone #[.iface t (.map (some r))] = (getObj r >>= fun o => match o with
      | .map entries clock => (newObj (.map entries clock) >>= fun n => pure (.iface t (.map (some n))))
      | _ => stuck "maps.clone: a map expected") := rfl
  rw [e]
  simp [MapKept.run_getObj_map (mapAt_iff.1 hb), Result.andThen, go_sem]
@[go_sem] theorem assert_MContent (t : TypeId) (p : Option Nat) (w : World) : (Instr.typeAssert (.iface 64 (.map p)) t 64 false).run Tryz.prog w = .ok (.map p) w := by
  simp [Instr.typeAssert, run_underlying un_MContent, go_sem, Result.andThen]
set_option maxRecDepth 20000 in
theorem maps_Clone (m : Nat) {es : Array MapEntry} {ck : Nat} (w : World) (hm : w.mapAt m = some (es, ck)) :
    Calls Tryz.prog 43 #[.map (some m)] w
      fun e w' => e = .returned (.map (some w.heap.size)) ∧ w' = w.alloc (.map es ck) := by
  go_enter Tryz.func43, Tryz.ntmps43
  go_wp2
  rw [run_callFunc_extern Tryz.func73 (by kernel_rfl) (by kernel_rfl) (by kernel_rfl) (e := Extern.MapsClone.clone) (by kernel_rfl), run_clone _ _ hm]
  simp only [Result.andThen]
  rw [Oper.upon_value]
  go_wp2
  go_ret
  exact ⟨rfl, rfl⟩
end Go.Proofs.YtencimimccoofaaGreatDoor
