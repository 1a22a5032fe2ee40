/- What a batch's deferred function does where nothing went wrong; rules for worlds behind draws. -/
import Derived.Test.YtencimimccoofaaGreatDoor15
import Derived.Defers
import Derived.WalkSmall
namespace Go.Proofs.YtencimimccoofaaGreatDoor
set_option linter.all false
open Go.RowKit
section
variable (w : World) (k : Nat)
@[go_sem] theorem oldB_drewN (n : Nat) : (w.drewN k).oldB n = w.oldB n := rfl
@[go_sem] theorem cellsAt_drewN (n off m : Nat) : (w.drewN k).cellsAt n off m = w.cellsAt n off m := rfl
@[go_sem] theorem hasC_drewN (n m : Nat) : (w.drewN k).hasC n m = w.hasC n m := rfl
@[go_sem] theorem freeC_drewN (n m : Nat) : (w.drewN k).freeC n m = w.freeC n m := rfl
@[go_sem] theorem mapAt_drewN (n : Nat) : (w.drewN k).mapAt n = w.mapAt n := rfl
@[go_sem] theorem putC_drewN (n off : Nat) (vs : Array Value) : (w.drewN k).putC n off vs = (w.putC n off vs).drewN k := rfl
@[go_sem] theorem putMap_drewN (r : Nat) (es : Array MapEntry) (ck : Nat) : (w.drewN k).putMap r es ck = (w.putMap r es ck).drewN k := rfl
@[go_sem] theorem setCell_drewN (a : Addr) (v : Value) : (w.drewN k).setCell a v = (w.setCell a v).drewN k := rfl
end

/-- is it a slice of one element, at the head of a block? -/
def isS1 : Option Value → Bool
  | some (.slice (some ⟨_, 0, none⟩) 1 _) => true
  | _ => false
@[go_sem] theorem isS1_some (n c : Nat) : isS1 (some (.slice (some ⟨n, 0, none⟩) 1 c)) = true := rfl
theorem isS1_iff {o : Option Value} (h : isS1 o = true) : ∃ n c, o = some (.slice (some ⟨n, 0, none⟩) 1 c) := by
  unfold isS1 at h
  split at h
  · exact ⟨_, _, rfl⟩
  · cases h

theorem Set1_idle (pw pe ps pc : Nat) (u : FrameMode) (w : World) (hw' : isS1 (w.cell? ⟨pw, 0, none⟩) = true) (he : w.cell? ⟨pe, 0, none⟩ = some (.int .i64 0)) :
    CallsD Tryz.prog 33 #[.pointer (some ⟨pw, 0, none⟩), .pointer (some ⟨pe, 0, none⟩), .pointer (some ⟨ps, 0, none⟩), .pointer (some ⟨pc, 0, none⟩)] u w
      fun e u' w' => u' = u ∧ (e = .returned (.tuple #[]) ∧ w' = w) := by
  obtain ⟨W0, cw, hw⟩ := isS1_iff hw'
  clear hw'
  go_enter_d Tryz.func33, Tryz.ntmps33
  go_wp2
  refine wp_loop_rounds 2 ?_
  rw [rounds_succ]
  go_wp2
  rw [rounds_succ]
  go_wp2
  go_end0
  exact ⟨rfl, rfl⟩

@[go_sem] theorem updE_nil (ck : Nat) (c r : Int) (v : Value) : updE #[] ck c r v = (#[{ key := .agg #[.int .i64 c, .int .i64 r], val := v, born := ck }], ck + 1) := rfl
end Go.Proofs.YtencimimccoofaaGreatDoor
