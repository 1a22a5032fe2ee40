/- value.Valid of no text; contents and nodes that are zero. -/
import Derived.Test.YtencimimccoofaaGreatDoor2
namespace Go.Proofs.YtencimimccoofaaGreatDoor
open Go.RowKit

/-- value.Valid of a value that is no text -/
def valOk (k : Int) (x : Nat) (s : ByteArray) (b : Bool) (f : Int) : Bool :=
  if k == 0 then (x : Int) == 0 && feq x 0 && s.toList.isEmpty && !b && (f == 0)
  else if k == 1 then feq 0 0 && s.toList.isEmpty && !b && (f == 0)
  else if k == 3 then (x : Int) == 0 && feq x 0 && s.toList.isEmpty && (f == 0)
  else if k == 4 then !decide (f < 1) && !decide (5 < f) && (x : Int) == 0 && feq x 0 && s.toList.isEmpty && !b
  else false

theorem feq00 : feq 0 0 = true := by decide +kernel

set_option maxHeartbeats 1600000 in
set_option maxRecDepth 20000 in
theorem value_Valid (k : Int) (x : Nat) (s : ByteArray) (b : Bool) (f : Int) (hk : (k == 2) = false) (w : World) :
    Calls Tryz.prog 84 #[.agg #[.int .i64 k, .float .f64 x, .string s, .bool b, .int .i64 f]] w fun e w' => e = .returned (.bool (valOk k x s b f)) ∧ Below w.heap.size w w' := by
  have h00 := feq00
  go_enter Tryz.func84, Tryz.ntmps84
  go_wp2

  all_goals go_ret
  all_goals refine ⟨ret_bool ?_, (by repeat (first | (with_reducible exact Below.refl _ _) | (with_reducible refine Below.drew ?_) | (with_reducible refine below_drewN ?_ _) | (with_reducible refine below_ext _ _ _ ?_ ?_) | (with_reducible refine Below.alloc ?_ ?_ _) | (with_reducible refine Below.setCell ?_ ?_ _) | (with_reducible refine below_putMap ?_ ?_ _ _) | assumption | (focus (simp; done)) | (focus (simp; omega)) | (focus omega) | refine below_tr (by assumption) (by simp <;> omega) ?_))⟩
  all_goals first | (simp [valOk, *]; done) | (simp [valOk, *]; intros; exfalso; omega)

def noNode (nk no : Int) (nx : Nat) (ns : ByteArray) (nb : Bool) (nf : Int) (rc rr : Int) (rcf rrf : Bool) (tc tr : Int) (tcf trf : Bool) (len : Int) : Bool :=
  nk == 0 && no == 0 && (nx : Int) == 0 && ns.toList.isEmpty && !nb && nf == 0 && (rc == 0 && rr == 0 && !rcf && !rrf) && (tc == 0 && tr == 0 && !tcf && !trf) && len == 0

set_option maxHeartbeats 1600000 in
set_option maxRecDepth 20000 in
theorem grid_noNode (nk no : Int) (nx : Nat) (ns : ByteArray) (nb : Bool) (nf : Int) (rc rr : Int) (rcf rrf : Bool) (tc tr : Int) (tcf trf : Bool) (A : Option Addr) (len cap : Nat) (w : World) :
    Calls Tryz.prog 83 #[.agg #[.int .i64 nk, .int .i64 no, .float .f64 nx, .string ns, .bool nb, .int .i64 nf, .int .i64 rc, .int .i64 rr, .bool rcf, .bool rrf, .int .i64 tc, .int .i64 tr, .bool tcf, .bool trf, .slice A len cap]] w fun e w' => e = .returned (.bool (noNode nk no nx ns nb nf rc rr rcf rrf tc tr tcf trf len)) ∧ Below w.heap.size w w' := by
  go_enter Tryz.func83, Tryz.ntmps83
  go_wp2

  all_goals go_ret
  all_goals refine ⟨ret_bool ?_, (by repeat (first | (with_reducible exact Below.refl _ _) | (with_reducible refine Below.drew ?_) | (with_reducible refine below_drewN ?_ _) | (with_reducible refine below_ext _ _ _ ?_ ?_) | (with_reducible refine Below.alloc ?_ ?_ _) | (with_reducible refine Below.setCell ?_ ?_ _) | (with_reducible refine below_putMap ?_ ?_ _ _) | assumption | (focus (simp; done)) | (focus (simp; omega)) | (focus omega) | refine below_tr (by assumption) (by simp <;> omega) ?_))⟩
  all_goals simp [noNode, *]
end Go.Proofs.YtencimimccoofaaGreatDoor
