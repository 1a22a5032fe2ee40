/- Contents whose formulas are leaves. -/
import Derived.Test.YtencimimccoofaaGreatDoor3
namespace Go.Proofs.YtencimimccoofaaGreatDoor
open Go.RowKit

theorem slices_Clip_Node_nil (w : World) :
    Calls Tryz.prog 112 #[.slice none 0 0] w fun e w' => e = .returned (.slice none 0 0) ∧ w = w' := by
  go_enter Tryz.func112, Tryz.ntmps112
  go_wp2
  go_ret
  exact ⟨rfl, rfl⟩

set_option maxHeartbeats 1600000 in
set_option maxRecDepth 20000 in
theorem formula_Copy0 (nk no : Int) (nx : Nat) (ns : ByteArray) (nb : Bool) (nf : Int) (rc rr : Int) (rcf rrf : Bool) (tc tr : Int) (tcf trf : Bool) (w : World) :
    Calls Tryz.prog 81 #[.agg #[.int .i64 nk, .int .i64 no, .float .f64 nx, .string ns, .bool nb, .int .i64 nf, .int .i64 rc, .int .i64 rr, .bool rcf, .bool rrf, .int .i64 tc, .int .i64 tr, .bool tcf, .bool trf, .slice none 0 0]] w fun e w' => e = .returned (.agg #[.int .i64 nk, .int .i64 no, .float .f64 (oneF nx), .string ns, .bool nb, .int .i64 nf, .int .i64 rc, .int .i64 rr, .bool rcf, .bool rrf, .int .i64 tc, .int .i64 tr, .bool tcf, .bool trf, .slice none 0 0]) ∧ Below w.heap.size w w' := by
  go_enter Tryz.func81, Tryz.ntmps81
  go_wp2_with (first | (go_at_call 111; refine (parts_One _ _).mono ?_; rintro e w' ⟨rfl, rfl⟩) | (go_at_call 112; refine (slices_Clip_Node_nil _).mono ?_; rintro e w' ⟨rfl, rfl⟩))
  refine wp_loop_rounds 1 ?_
  rw [rounds_succ]
  go_wp2_with (first | (go_at_call 111; refine (parts_One _ _).mono ?_; rintro e w' ⟨rfl, rfl⟩) | (go_at_call 112; refine (slices_Clip_Node_nil _).mono ?_; rintro e w' ⟨rfl, rfl⟩))
  exact bodyPost_struct Tryz.results81 un_Node sz_Node rfl rfl (by go_simp) (by go_simp) ⟨rfl, (by repeat (first | (with_reducible exact Below.refl _ _) | (with_reducible refine Below.drew ?_) | (with_reducible refine below_drewN ?_ _) | (with_reducible refine below_ext _ _ _ ?_ ?_) | (with_reducible refine Below.alloc ?_ ?_ _) | (with_reducible refine Below.setCell ?_ ?_ _) | (with_reducible refine below_putMap ?_ ?_ _ _) | assumption | (focus (simp; done)) | (focus (simp; omega)) | (focus omega) | refine below_tr (by assumption) (by simp <;> omega) ?_))⟩

set_option maxHeartbeats 1600000 in
set_option maxRecDepth 20000 in
theorem grid_Copy0 (ck : Int) (k : Int) (x : Nat) (s : ByteArray) (b : Bool) (f : Int) (nk no : Int) (nx : Nat) (ns : ByteArray) (nb : Bool) (nf : Int) (rc rr : Int) (rcf rrf : Bool) (tc tr : Int) (tcf trf : Bool) (w : World) :
    Calls Tryz.prog 51 #[.agg #[.int .i64 ck, .int .i64 k, .float .f64 x, .string s, .bool b, .int .i64 f, .int .i64 nk, .int .i64 no, .float .f64 nx, .string ns, .bool nb, .int .i64 nf, .int .i64 rc, .int .i64 rr, .bool rcf, .bool rrf, .int .i64 tc, .int .i64 tr, .bool tcf, .bool trf, .slice none 0 0]] w
      fun e w' => e = .returned (.agg #[.int .i64 ck, .int .i64 k, .float .f64 (oneF x), .string s, .bool b, .int .i64 f, .int .i64 nk, .int .i64 no, .float .f64 (oneF nx), .string ns, .bool nb, .int .i64 nf, .int .i64 rc, .int .i64 rr, .bool rcf, .bool rrf, .int .i64 tc, .int .i64 tr, .bool tcf, .bool trf, .slice none 0 0]) ∧ Below w.heap.size w w' := by
  go_enter Tryz.func51, Tryz.ntmps51
  go_wp2_with fail
  refine (value_OfNumber _ _).mono ?_
  rintro e w1 ⟨rfl, hb⟩
  obtain ⟨E1, d1, rfl⟩ := ext_of_below hb
  clear hb
  go_wp2_with fail
  refine (formula_Copy0 _ _ _ _ _ _ _ _ _ _ _ _ _ _ _).mono ?_
  rintro e w2 ⟨rfl, hb⟩
  obtain ⟨E2, d2, rfl⟩ := ext_of_below hb
  clear hb
  go_wp2_with fail
  exact bodyPost_struct Tryz.results51 un_Content sz_Content rfl rfl (by go_simp) (by go_simp) ⟨rfl, (by repeat (first | (with_reducible exact Below.refl _ _) | (with_reducible refine Below.drew ?_) | (with_reducible refine below_drewN ?_ _) | (with_reducible refine below_ext _ _ _ ?_ ?_) | (with_reducible refine Below.alloc ?_ ?_ _) | (with_reducible refine Below.setCell ?_ ?_ _) | (with_reducible refine below_putMap ?_ ?_ _ _) | assumption | (focus (simp; done)) | (focus (simp; omega)) | (focus omega) | refine below_tr (by assumption) (by simp <;> omega) ?_))⟩

/-- grid.Valid of a content that is empty or plain, the formula's node a leaf -/
def contOk (ck : Int) (k : Int) (x : Nat) (s : ByteArray) (b : Bool) (f : Int) (nn : Bool) : Bool :=
  if ck == 0 then okVal0 k x s b f && nn else if ck == 1 then nn && k != 0 && valOk k x s b f else false

set_option maxHeartbeats 1600000 in
set_option maxRecDepth 20000 in
theorem grid_Valid0 (ck : Int) (k : Int) (x : Nat) (s : ByteArray) (b : Bool) (f : Int) (nk no : Int) (nx : Nat) (ns : ByteArray) (nb : Bool) (nf : Int) (rc rr : Int) (rcf rrf : Bool) (tc tr : Int) (tcf trf : Bool) (hk : (k == 2) = false) (hc : (ck == 2) = false) (w : World) :
    Calls Tryz.prog 56 #[.agg #[.int .i64 ck, .int .i64 k, .float .f64 x, .string s, .bool b, .int .i64 f, .int .i64 nk, .int .i64 no, .float .f64 nx, .string ns, .bool nb, .int .i64 nf, .int .i64 rc, .int .i64 rr, .bool rcf, .bool rrf, .int .i64 tc, .int .i64 tr, .bool tcf, .bool trf, .slice none 0 0]] w
      fun e w' => e = .returned (.bool (contOk ck k x s b f (noNode nk no nx ns nb nf rc rr rcf rrf tc tr tcf trf 0))) ∧ Below w.heap.size w w' := by
  go_enter Tryz.func56, Tryz.ntmps56
  go_wp2_with (first
    | (go_at_call 82; refine (grid_noValue _ _ _ _ _ _).mono ?_; rintro e w1 ⟨rfl, hb⟩; obtain ⟨E1, d1, rfl⟩ := ext_of_below hb; clear hb)
    | (go_at_call 83; refine (grid_noNode _ _ _ _ _ _ _ _ _ _ _ _ _ _ none 0 0 _).mono ?_; rintro e w1 ⟨rfl, hb⟩; obtain ⟨E2, d2, rfl⟩ := ext_of_below hb; clear hb)
    | (go_at_call 84; refine (value_Valid _ _ _ _ _ hk _).mono ?_; rintro e w1 ⟨rfl, hb⟩; obtain ⟨E3, d3, rfl⟩ := ext_of_below hb; clear hb))
  all_goals go_ret
  all_goals refine ⟨ret_bool ?_, (by repeat (first | (with_reducible exact Below.refl _ _) | (with_reducible refine Below.drew ?_) | (with_reducible refine below_drewN ?_ _) | (with_reducible refine below_ext _ _ _ ?_ ?_) | (with_reducible refine Below.alloc ?_ ?_ _) | (with_reducible refine Below.setCell ?_ ?_ _) | (with_reducible refine below_putMap ?_ ?_ _ _) | assumption | (focus (simp; done)) | (focus (simp; omega)) | (focus omega) | refine below_tr (by assumption) (by simp <;> omega) ?_))⟩
  all_goals simp [contOk, *]
end Go.Proofs.YtencimimccoofaaGreatDoor
