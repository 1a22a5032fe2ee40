/- A range over a function that never calls back; the cells of an empty grid. -/
import Derived.Test.YtencimimccoofaaGreatDoor18
import Derived.RangeFuncFrom
import Derived.RangeFuncLeaves
import Derived.RangeFuncCalls
import Derived.Shelf.Abstract
import Derived.OwnWalkIn
import Derived.TacticsInMore
namespace Go.Proofs.YtencimimccoofaaGreatDoor
set_option linter.all false
open Go.RowKit Go.Shelf

/-- does a block hold no deferred call? -/
def _root_.Go.World.defAt (w : World) (n : Nat) : Bool := match w.heap[n]? with | some (.deferred (some [])) => true | _ => false
theorem defAt_iff {w : World} {n : Nat} : w.defAt n = true ↔ w.heap[n]? = some (.deferred (some [])) := by
  unfold World.defAt
  constructor
  · intro h; split at h
    · assumption
    · cases h
  · intro h; rw [h]
section
variable (w : World) (n : Nat)
@[go_sem] theorem defAt_drew : w.drew.defAt n = w.defAt n := rfl
@[go_sem] theorem defAt_drewN (k : Nat) : (w.drewN k).defAt n = w.defAt n := rfl
@[go_sem] theorem defAt_alloc (o : Obj) (hn : w.oldB n = true) : (w.alloc o).defAt n = w.defAt n := by unfold World.defAt; rw [Below.heap_alloc w o n (oldB_lt hn)]
@[go_sem] theorem defAt_ext (E : Array Obj) (d : Nat) (hn : w.oldB n = true) : (w.ext E d).defAt n = w.defAt n := by unfold World.defAt; rw [heap_ext w E d n (oldB_lt hn)]
@[go_sem] theorem defAt_setCell (a : Addr) (v : Value) : (w.setCell a v).defAt n = w.defAt n := by
  unfold World.defAt; rw [heap_setCell]; by_cases hr : a.block = n
  · rw [if_pos hr]; cases w.heap[n]? with
    | none => rfl
    | some o => cases o <;> rfl
  · rw [if_neg hr]
@[go_sem] theorem defAt_putMap (r : Nat) (es : Array MapEntry) (ck : Nat) : (w.putMap r es ck).defAt n = w.defAt n := by
  unfold World.defAt; rw [heap_putMap]; by_cases hr : r = n
  · rw [if_pos hr]; cases w.heap[n]? with
    | none => rfl
    | some o => cases o <;> rfl
  · rw [if_neg hr]
@[go_sem] theorem defAt_putC (m off : Nat) (vs : Array Value) : (w.putC m off vs).defAt n = w.defAt n := by
  unfold World.defAt World.putC; simp only [Array.getElem?_modify]; by_cases hr : m = n
  · rw [if_pos hr]; cases w.heap[n]? with
    | none => rfl
    | some o => cases o <;> rfl
  · rw [if_neg hr]
end

/-- **'for .. := range g { .. }' where g's function never calls back.** -/
theorem wpIn_rangeFunc_idle {P : Program} {m : Nat} {g : Operand} {ps : Array Tmp} {assign body : Code} {Q : Exit → Act → World → Prop} {a : Act} {w : World}
    {gf : Nat} {lb : Array Value} (hg : a.eval g = .func (.func gf) #[] lb) (eg : ∀ args w, (callFunc gf args).run P w = .ok (.enter gf args) w)
    (hcall : ∀ (fn : FuncId), Calls P gf (#[.func (.yield (w.heap.size + 1)) #[] #[]] ++ lb) ((w.alloc (.deferred (some []))).alloc (.loop { state := .ready, pending := none, fn, tmps := a.tmps, params := ps, assign, body, defers := w.heap.size }))
      fun e W2 => (∃ v, e = .returned v) ∧ Below (w.heap.size + 2) ((w.alloc (.deferred (some []))).alloc (.loop { state := .ready, pending := none, fn, tmps := a.tmps, params := ps, assign, body, defers := w.heap.size })) W2)
    (hdone : ∀ (W : World), Below w.heap.size w W → W.defAt w.heap.size = true → W.oldB w.heap.size = true → Q .normal { a with defers := { target := .collected w.heap.size, args := #[] } :: a.defers } W) :
    (Code.rangeFunc g ps assign body).wpIn Fence.wide m P Q a w := by
  refine wpIn_rangeFunc ?_
  intro fn hfn
  have hc := hcall fn
  obtain ⟨rec, hrec⟩ : ∃ rec : LoopState → Loop, rec = fun st => { state := st, pending := none, fn, tmps := a.tmps, params := ps, assign, body, defers := w.heap.size } := ⟨_, rfl⟩
  obtain ⟨W1, hW1⟩ : ∃ W1, (w.alloc (.deferred (some []))).alloc (.loop (rec .ready)) = W1 := ⟨_, rfl⟩
  have hL1 : W1.heap[w.heap.size + 1]? = some (.loop (rec .ready)) := by
    rw [← hW1]; have := World.alloc_heap_new (w.alloc (.deferred (some []))) (.loop (rec .ready)); rwa [World.size_alloc] at this
  have hK1 : W1.heap[w.heap.size]? = some (.deferred (some [])) := by
    rw [← hW1]; exact (Below.heap_alloc _ _ _ (by simp)).trans (World.alloc_heap_new w _)
  have hb1 : Below w.heap.size w W1 := by
    rw [← hW1]; exact ((Below.refl _ w).alloc (Nat.le_refl _) _).alloc (by simp) _
  have hs1 : W1.heap.size = w.heap.size + 2 := by rw [← hW1]; simp
  refine ⟨w.heap.size + 1, [{ target := .collected w.heap.size, args := #[] }], W1, { target := .fn (.func gf) lb, args := #[.func (.yield (w.heap.size + 1)) #[] #[]] }, W1, gf,
    #[.func (.yield (w.heap.size + 1)) #[] #[]] ++ lb, W1, ?_, ?_, ?_, ?_, (fun h => by cases h), ?_⟩
  · rw [← hW1, hrec]; exact run_enterLoop_outer _ _ _ _ _
  · simp only [resolve, hg]
    simp [go_sem]
  · intro f' hf'; trivial
  · simp [invoke, go_sem, eg]
  · have hc' : Calls P gf (#[.func (.yield (w.heap.size + 1)) #[] #[]] ++ lb) W1 fun e W2 => (∃ v, e = .returned v) ∧ Below (w.heap.size + 2) W1 W2 := by
      rw [← hW1, hrec]; exact hc
    refine (callsIn_wide.2 hc').mono ?_
    rintro e W2 ⟨⟨v, rfl⟩, hB⟩
    have hl : W2.heap[w.heap.size + 1]? = some (.loop (rec .ready)) := (hB.block _ (by omega)).trans hL1
    have hk : W2.heap[w.heap.size]? = some (.deferred (some [])) := (hB.block _ (by omega)).trans hK1
    refine ⟨none, W2.putObj (w.heap.size + 1) (.loop (rec .exhausted)), ?_, ?_⟩
    · have := run_endLoop (P := P) hl (by rw [hrec]; simp)
      rw [hrec] at this ⊢
      exact this
    · refine hdone _ ?_ ?_ ?_
      · have h2 : Below w.heap.size W2 (W2.putObj (w.heap.size + 1) (.loop (rec .exhausted))) :=
          ⟨rfl, rfl, rfl, by simp, fun k hk => World.putObj_heap_other (by omega)⟩
        exact (hb1.trans (hB.mono (by omega))).trans h2
      · rw [defAt_iff]; exact (World.putObj_heap_other (by omega)).trans hk
      · exact oldB_of (by have := hB.size; simp; omega)

theorem below_putObj {B : Nat} {w W : World} (h : Below B w W) {l : Nat} (hl : B ≤ l) (o : Obj) : Below B w (W.putObj l o) :=
  h.trans ⟨rfl, rfl, rfl, by simp, fun k hk => World.putObj_heap_other (by omega)⟩

set_option maxRecDepth 20000 in
theorem Keys1_nil (v : Value) (bm m : Nat) {ck : Nat} (w : World) (hb : w.cell? ⟨bm, 0, none⟩ = some (.map (some m))) (hm : w.mapAt m = some (#[], ck)) (hml : w.oldB m = true) :
    Calls Tryz.prog 75 #[v, .pointer (some ⟨bm, 0, none⟩)] w fun e w' => e = .returned (.tuple #[]) ∧ Below w.heap.size w w' := by
  have hn : ∀ ty, (Instr.next (.pointer (some ⟨w.heap.size, 0, none⟩)) false ty).run Tryz.prog (w.alloc (.mapIter (some m) ck #[] ck)) = .ok (.tuple #[.bool false]) (w.alloc (.mapIter (some m) ck #[] ck)) :=
    fun ty => run_next_over (m := m) (es := #[]) (ck := ck) (s := ck) (seen := #[]) (c := ck) (by go_simp) (by go_simp) (by simp) rfl ty
  go_enter Tryz.func75, Tryz.ntmps75
  go_wp2
  refine wp_loop_rounds 1 ?_
  rw [rounds_succ]
  go_wp2
  go_end0
  exact ⟨rfl, (by repeat (first | (with_reducible exact Below.refl _ _) | (with_reducible refine Below.drew ?_) | (with_reducible refine below_drewN ?_ _) | (with_reducible refine below_ext _ _ _ ?_ ?_) | (with_reducible refine Below.alloc ?_ ?_ _) | (with_reducible refine Below.setCell ?_ ?_ _) | (with_reducible refine below_putMap ?_ ?_ _ _) | assumption | (focus (simp; done)) | (focus (simp; omega)) | (focus omega) | refine below_tr (by assumption) (by simp <;> omega) ?_))⟩

theorem Keys_nil (m : Nat) (w : World) : Calls Tryz.prog 48 #[.map (some m)] w
    fun e w' => e = .returned (.func (.func 75) #[] #[.pointer (some ⟨w.heap.size, 0, none⟩)]) ∧ w' = w.alloc (.cells #[.map (some m)] 64) := by
  have hmf : ∀ (fn : Fn) (first cap : Array Value) (w : World), (Instr.makeFunc fn first cap).run Tryz.prog w = .ok (.func fn first cap) w := fun _ _ _ _ => rfl
  go_enter Tryz.func48, Tryz.ntmps48
  go_wp2
  go_ret
  exact ⟨rfl, rfl⟩

set_option maxHeartbeats 1600000 in
set_option maxRecDepth 20000 in
theorem AppendSeq_nil (bm m : Nat) {ck : Nat} (w : World) (hb : w.cell? ⟨bm, 0, none⟩ = some (.map (some m))) (hbo : w.oldB bm = true) (hm : w.mapAt m = some (#[], ck)) (hml : w.oldB m = true) :
    Calls Tryz.prog 106 #[.slice none 0 0, .func (.func 75) #[] #[.pointer (some ⟨bm, 0, none⟩)]] w fun e w' => e = .returned (.slice none 0 0) ∧ Below w.heap.size w w' := by
  refine (callsIn_wide (n := 3)).1 ?_
  refine callsIn_of_wp_marks Tryz.func106 rfl trivial ?_ rfl
  simp only [Tryz.ntmps106, List.size_toArray, List.length_cons, List.length_nil, Nat.reduceAdd, Nat.reduceSub, Array.replicate_succ, Array.replicate_zero, List.push_toArray, List.append_toArray, List.nil_append, List.cons_append]
  gi_wp2
  refine wpIn_rangeFunc_idle (gf := 75) (lb := #[.pointer (some ⟨bm, 0, none⟩)]) rfl (enters_of Tryz.func75 (by kernel_rfl) rfl) ?_ ?_
  · intro fn
    refine (Keys1_nil _ bm m (ck := ck) _ ?_ ?_ ?_).mono ?_
    · go_simp
    · go_simp
    · go_simp
    · rintro e w' ⟨rfl, hB⟩
      exact ⟨⟨_, rfl⟩, hB.mono (by simp)⟩
  · intro W hB hd hD
    obtain ⟨E, d, rfl⟩ := ext_of_below hB
    gi_wp2
    refine ⟨by simp, .inl ⟨_, _, rfl, run_takeDeferred (defAt_iff.1 hd), ?_⟩⟩
    exact ⟨_, results_tmp rfl _ _ _, rfl, below_putObj (by repeat (first | (with_reducible exact Below.refl _ _) | (with_reducible refine Below.drew ?_) | (with_reducible refine below_drewN ?_ _) | (with_reducible refine below_ext _ _ _ ?_ ?_) | (with_reducible refine Below.alloc ?_ ?_ _) | (with_reducible refine Below.setCell ?_ ?_ _) | (with_reducible refine below_putMap ?_ ?_ _ _) | assumption | (focus (simp; done)) | (focus (simp; omega)) | (focus omega) | refine below_tr (by assumption) (by simp <;> omega) ?_)) (by simp) _⟩

theorem Collect_nil (bm m : Nat) {ck : Nat} (w : World) (hb : w.cell? ⟨bm, 0, none⟩ = some (.map (some m))) (hbo : w.oldB bm = true) (hm : w.mapAt m = some (#[], ck)) (hml : w.oldB m = true) :
    Calls Tryz.prog 74 #[.func (.func 75) #[] #[.pointer (some ⟨bm, 0, none⟩)]] w fun e w' => e = .returned (.slice none 0 0) ∧ Below w.heap.size w w' := by
  go_enter Tryz.func74, Tryz.ntmps74
  go_wp2_with (go_at_call 106; refine (AppendSeq_nil bm m (ck := ck) _ (by go_simp) (by go_simp) (by go_simp) (by go_simp)).mono ?_; rintro e w' ⟨rfl, hbel⟩; obtain ⟨E1, d1, rfl⟩ := ext_of_below hbel; clear hbel)
  go_ret
  exact ⟨rfl, (by repeat (first | (with_reducible exact Below.refl _ _) | (with_reducible refine Below.drew ?_) | (with_reducible refine below_drewN ?_ _) | (with_reducible refine below_ext _ _ _ ?_ ?_) | (with_reducible refine Below.alloc ?_ ?_ _) | (with_reducible refine Below.setCell ?_ ?_ _) | (with_reducible refine below_putMap ?_ ?_ _ _) | assumption | (focus (simp; done)) | (focus (simp; omega)) | (focus omega) | refine below_tr (by assumption) (by simp <;> omega) ?_))⟩

theorem SortedFunc_nil (bm m : Nat) {ck : Nat} (v : Value) (w : World) (hb : w.cell? ⟨bm, 0, none⟩ = some (.map (some m))) (hbo : w.oldB bm = true) (hm : w.mapAt m = some (#[], ck)) (hml : w.oldB m = true) :
    Calls Tryz.prog 47 #[.func (.func 75) #[] #[.pointer (some ⟨bm, 0, none⟩)], v] w fun e w' => e = .returned (.slice none 0 0) ∧ Below w.heap.size w w' := by
  go_enter Tryz.func47, Tryz.ntmps47
  go_wp2_with (first | (go_at_call 74; refine (Collect_nil bm m (ck := ck) _ (by go_simp) (by go_simp) (by go_simp) (by go_simp)).mono ?_; rintro e w' ⟨rfl, hbel⟩; obtain ⟨E1, d1, rfl⟩ := ext_of_below hbel; clear hbel) | (go_at_call 68; refine (SortFunc_nil _ _).mono ?_; rintro e w' ⟨rfl, rfl⟩))
  go_ret
  exact ⟨rfl, (by repeat (first | (with_reducible exact Below.refl _ _) | (with_reducible refine Below.drew ?_) | (with_reducible refine below_drewN ?_ _) | (with_reducible refine below_ext _ _ _ ?_ ?_) | (with_reducible refine Below.alloc ?_ ?_ _) | (with_reducible refine Below.setCell ?_ ?_ _) | (with_reducible refine below_putMap ?_ ?_ _ _) | assumption | (focus (simp; done)) | (focus (simp; omega)) | (focus omega) | refine below_tr (by assumption) (by simp <;> omega) ?_))⟩

set_option maxHeartbeats 1600000 in
set_option maxRecDepth 20000 in
theorem some1_nil (pg pw g m : Nat) {ck : Nat} (v : Value) (w : World) (hp : w.cell? ⟨pg, 0, none⟩ = some (.pointer (some ⟨g, 0, none⟩))) (hg : w.cell? ⟨g, 0, none⟩ = some (.map (some m))) (hm : w.mapAt m = some (#[], ck)) :
    Calls Tryz.prog 102 #[v, .pointer (some ⟨pg, 0, none⟩), .pointer (some ⟨pw, 0, none⟩)] w fun e w' => e = .returned (.tuple #[]) ∧ Below w.heap.size w w' := by
  go_enter Tryz.func102, Tryz.ntmps102
  go_wp2_with (first | (go_at_call 43; refine (maps_Clone m (es := #[]) (ck := ck) _ hm).mono ?_; rintro e w' ⟨rfl, rfl⟩) | (go_at_call 48; refine (Keys_nil _ _).mono ?_; rintro e w' ⟨rfl, rfl⟩) | (go_at_call 47; refine (SortedFunc_nil (w.heap.size + 1) w.heap.size (ck := ck) _ _ (by go_simp) (by go_simp) (by go_simp) (by go_simp)).mono ?_; rintro e w' ⟨rfl, hbel⟩; obtain ⟨E1, d1, rfl⟩ := ext_of_below hbel; clear hbel))
  refine wp_loop_rounds 1 ?_
  rw [rounds_succ]
  go_wp2
  go_end0
  exact ⟨rfl, (by repeat (first | (with_reducible exact Below.refl _ _) | (with_reducible refine Below.drew ?_) | (with_reducible refine below_drewN ?_ _) | (with_reducible refine below_ext _ _ _ ?_ ?_) | (with_reducible refine Below.alloc ?_ ?_ _) | (with_reducible refine Below.setCell ?_ ?_ _) | (with_reducible refine below_putMap ?_ ?_ _ _) | assumption | (focus (simp; done)) | (focus (simp; omega)) | (focus omega) | refine below_tr (by assumption) (by simp <;> omega) ?_))⟩

theorem grid_some (g : Nat) (fw : Fn) (w : World) :
    Calls Tryz.prog 70 #[.pointer (some ⟨g, 0, none⟩), .func fw #[] #[]] w
      fun e w' => e = .returned (.func (.func 102) #[] #[.pointer (some ⟨w.heap.size, 0, none⟩), .pointer (some ⟨w.heap.size + 1, 0, none⟩)]) ∧
        w' = (w.alloc (.cells #[.pointer (some ⟨g, 0, none⟩)] 31)).alloc (.cells #[.func fw #[] #[]] 105) := by
  have hmf : ∀ (fn : Fn) (first cap : Array Value) (w : World), (Instr.makeFunc fn first cap).run Tryz.prog w = .ok (.func fn first cap) w := fun _ _ _ _ => rfl
  go_enter Tryz.func70, Tryz.ntmps70
  go_wp2
  go_ret
  exact ⟨rfl, rfl⟩
theorem grid_All (g : Nat) (w : World) :
    Calls Tryz.prog 40 #[.pointer (some ⟨g, 0, none⟩)] w
      fun e w' => e = .returned (.func (.func 102) #[] #[.pointer (some ⟨w.heap.size, 0, none⟩), .pointer (some ⟨w.heap.size + 1, 0, none⟩)]) ∧
        w' = (w.alloc (.cells #[.pointer (some ⟨g, 0, none⟩)] 31)).alloc (.cells #[.func (.func 71) #[] #[]] 105) := by
  go_enter Tryz.func40, Tryz.ntmps40
  go_wp2_with (go_at_call 70; refine (grid_some _ _ _).mono ?_; rintro e w' ⟨rfl, rfl⟩)
  go_ret
  exact ⟨rfl, rfl⟩
end Go.Proofs.YtencimimccoofaaGreatDoor
