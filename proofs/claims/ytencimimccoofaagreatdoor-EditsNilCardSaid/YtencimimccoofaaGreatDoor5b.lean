/- Iterators over maps: what a step comes to. -/
import Derived.Test.YtencimimccoofaaGreatDoor5
namespace Go.Proofs.YtencimimccoofaaGreatDoor
open Go.RowKit

/-! ## Iterators over maps, likewise -/
def _root_.Go.World.itAt (w : World) (r : Nat) : Option (Option Nat × Nat × Array Nat × Nat) := match w.heap[r]? with | some (.mapIter m s seen ck) => some (m, s, seen, ck) | _ => none
def overIter (seen : Array Nat) (ck : Nat) : Obj → Obj
  | .mapIter m s _ _ => .mapIter m s seen ck
  | o => o
def _root_.Go.World.putIt (w : World) (r : Nat) (seen : Array Nat) (ck : Nat) : World := { w with heap := w.heap.modify r (overIter seen ck) }
theorem itAt_iff {w : World} {r : Nat} {m : Option Nat} {s : Nat} {seen : Array Nat} {ck : Nat} : w.itAt r = some (m, s, seen, ck) ↔ w.heap[r]? = some (.mapIter m s seen ck) := by
  unfold World.itAt
  constructor
  · intro h; split at h <;> simp_all
  · intro h; simp [h]
section
variable (w : World) (r : Nat) (es : Array Nat) (ck : Nat)
@[simp] theorem size_putIt : (w.putIt r es ck).heap.size = w.heap.size := by simp [World.putIt]
@[go_sem] theorem oldB_putIt (n : Nat) : (w.putIt r es ck).oldB n = w.oldB n := by simp [World.oldB, World.putIt]
theorem heap_putIt (n : Nat) : (w.putIt r es ck).heap[n]? = if r = n then (w.heap[n]?).map (overIter es ck) else w.heap[n]? := by simp [World.putIt, Array.getElem?_modify]
@[go_sem] theorem cell_putIt (a : Addr) : (w.putIt r es ck).cell? a = w.cell? a := by
  unfold World.cell?; rw [heap_putIt]; by_cases hr : r = a.block
  · rw [if_pos hr]; cases w.heap[a.block]? with
    | none => rfl
    | some o => cases o <;> rfl
  · rw [if_neg hr]
@[go_sem] theorem frozen_putIt (a : Addr) : (w.putIt r es ck).frozen? a = w.frozen? a := by
  unfold World.frozen?; rw [heap_putIt]; by_cases hr : r = a.block
  · rw [if_pos hr]; cases w.heap[a.block]? with
    | none => rfl
    | some o => cases o <;> rfl
  · rw [if_neg hr]
@[go_sem] theorem cellsAt_putIt (n off k : Nat) : (w.putIt r es ck).cellsAt n off k = w.cellsAt n off k := by
  unfold World.cellsAt; rw [heap_putIt]; by_cases hr : r = n
  · rw [if_pos hr]; cases w.heap[n]? with
    | none => rfl
    | some o => cases o <;> rfl
  · rw [if_neg hr]
@[go_sem] theorem hasC_putIt (n m : Nat) : (w.putIt r es ck).hasC n m = w.hasC n m := by
  unfold World.hasC; rw [heap_putIt]; by_cases hr : r = n
  · rw [if_pos hr]; cases w.heap[n]? with
    | none => rfl
    | some o => cases o <;> rfl
  · rw [if_neg hr]
@[go_sem] theorem freeC_putIt (n m : Nat) : (w.putIt r es ck).freeC n m = w.freeC n m := by
  unfold World.freeC; rw [heap_putIt]; by_cases hr : r = n
  · rw [if_pos hr]; cases w.heap[n]? with
    | none => rfl
    | some o => cases o <;> rfl
  · rw [if_neg hr]
@[go_sem] theorem setCell_putIt (a : Addr) (v : Value) : (w.putIt r es ck).setCell a v = (w.setCell a v).putIt r es ck := by
  simp only [World.putIt, World.setCell]
  rw [modify_comm]
  intro o; cases o <;> rfl
@[go_sem] theorem putC_putIt (n off : Nat) (vs : Array Value) : (w.putIt r es ck).putC n off vs = (w.putC n off vs).putIt r es ck := by
  simp only [World.putIt, World.putC]
  rw [modify_comm]
  intro o; cases o <;> rfl
@[go_sem] theorem itAt_putIt_same (h : (w.itAt r).isSome = true) : (w.putIt r es ck).itAt r = (w.itAt r).map (fun x => (x.1, x.2.1, es, ck)) := by
  unfold World.itAt at *
  rw [heap_putIt, if_pos rfl]
  split at h
  · rename_i hh; simp only [hh]; rfl
  · cases h
@[go_sem] theorem itAt_putIt_other (n : Nat) (h : r ≠ n) : (w.putIt r es ck).itAt n = w.itAt n := by
  unfold World.itAt; rw [heap_putIt, if_neg h]
@[go_sem] theorem itAt_alloc_past (o : Obj) (n : Nat) (hn : w.oldB n = true) : (w.alloc o).itAt n = w.itAt n := by unfold World.itAt; rw [Below.heap_alloc w o n (oldB_lt hn)]
@[go_sem] theorem itAt_alloc_at (m : Option Nat) (s : Nat) (n : Nat) (hn : n = w.heap.size) : (w.alloc (.mapIter m s es ck)).itAt n = some (m, s, es, ck) := by subst hn; unfold World.itAt; rw [heap_alloc_new]
@[go_sem] theorem itAt_drew (n : Nat) : w.drew.itAt n = w.itAt n := rfl
@[go_sem] theorem itAt_ext (E : Array Obj) (d n : Nat) (hn : w.oldB n = true) : (w.ext E d).itAt n = w.itAt n := by unfold World.itAt; rw [heap_ext w E d n (oldB_lt hn)]
@[go_sem] theorem itAt_setCell (a : Addr) (v : Value) (n : Nat) : (w.setCell a v).itAt n = w.itAt n := by
  unfold World.itAt; simp only [World.setCell, Array.getElem?_modify]; by_cases hr : a.block = n
  · rw [if_pos hr]; cases w.heap[n]? with
    | none => rfl
    | some o => cases o <;> rfl
  · rw [if_neg hr]
@[go_sem] theorem itAt_putC (m off : Nat) (vs : Array Value) (n : Nat) : (w.putC m off vs).itAt n = w.itAt n := by
  unfold World.itAt; simp only [World.putC, Array.getElem?_modify]; by_cases hr : m = n
  · rw [if_pos hr]; cases w.heap[n]? with
    | none => rfl
    | some o => cases o <;> rfl
  · rw [if_neg hr]
@[go_sem] theorem putIt_ext (E : Array Obj) (d : Nat) (hn : w.oldB r = true) : (w.ext E d).putIt r es ck = (w.putIt r es ck).ext E d := by
  have hn := oldB_lt hn
  simp only [World.ext, World.putIt]
  congr 1
  apply Array.ext_getElem?
  intro j
  simp only [Array.getElem?_modify, Array.getElem?_append, Array.size_modify]
  split
  · subst_vars; simp [hn]
  · rfl
@[go_sem] theorem putIt_drew : w.drew.putIt r es ck = (w.putIt r es ck).drew := rfl
@[go_sem] theorem putIt_alloc_past (o : Obj) (hn : w.oldB r = true) : (w.alloc o).putIt r es ck = (w.putIt r es ck).alloc o := by
  have hn := oldB_lt hn
  simp only [World.putIt, World.alloc]
  congr 1
  apply Array.ext_getElem?
  intro j
  rw [Array.getElem?_modify, Array.getElem?_push, Array.getElem?_push, Array.size_modify, Array.getElem?_modify]
  by_cases hj : j = w.heap.size
  · subst hj; rw [if_neg (by omega)]; simp
  · simp [hj]
@[go_sem] theorem putIt_alloc_at (m : Option Nat) (s : Nat) (es' : Array Nat) (ck' n : Nat) (hn : n = w.heap.size) : (w.alloc (.mapIter m s es' ck')).putIt n es ck = w.alloc (.mapIter m s es ck) := by
  subst hn
  simp only [World.putIt, World.alloc]
  congr 1
  apply Array.ext_getElem?
  intro j
  rw [Array.getElem?_modify, Array.getElem?_push, Array.getElem?_push]
  by_cases hj : j = w.heap.size
  · subst hj; simp [overIter]
  · rw [if_neg (fun h => hj h.symm), if_neg hj, if_neg hj]
@[go_sem] theorem putIt_putIt (es' : Array Nat) (ck' : Nat) : (w.putIt r es ck).putIt r es' ck' = w.putIt r es' ck' := by
  simp only [World.putIt]
  congr 1
  apply Array.ext_getElem?
  intro j
  simp only [Array.getElem?_modify]
  split
  · cases w.heap[j]? with
    | none => rfl
    | some o => cases o <;> rfl
  · rfl
end

section
variable (w : World)
@[go_sem] theorem mapAt_putIt (r : Nat) (es : Array Nat) (ck n : Nat) : (w.putIt r es ck).mapAt n = w.mapAt n := by
  unfold World.mapAt; rw [heap_putIt]; by_cases hr : r = n
  · rw [if_pos hr]; cases w.heap[n]? with
    | none => rfl
    | some o => cases o <;> rfl
  · rw [if_neg hr]
@[go_sem] theorem itAt_putMap (r : Nat) (es : Array MapEntry) (ck n : Nat) : (w.putMap r es ck).itAt n = w.itAt n := by
  unfold World.itAt; rw [heap_putMap]; by_cases hr : r = n
  · rw [if_pos hr]; cases w.heap[n]? with
    | none => rfl
    | some o => cases o <;> rfl
  · rw [if_neg hr]
@[go_sem] theorem putIt_putMap (r r' : Nat) (es : Array MapEntry) (ck : Nat) (es' : Array Nat) (ck' : Nat) : (w.putMap r es ck).putIt r' es' ck' = (w.putIt r' es' ck').putMap r es ck := by
  simp only [World.putMap, World.putIt]
  rw [modify_comm]
  intro o; cases o <;> rfl
end

/-- the entries that an iterator has not told yet -/
def leftE (es : Array MapEntry) (seen : Array Nat) : List MapEntry := es.toList.filter fun e => !seen.contains e.born

theorem putIt_setIn {w : World} {n : Nat} {m : Option Nat} {s : Nat} {seen : Array Nat} {c : Nat} (h : w.itAt n = some (m, s, seen, c)) (seen' : Array Nat) (c' : Nat) :
    { w with heap := w.heap.setIfInBounds n (.mapIter m s seen' c') } = w.putIt n seen' c' := by
  have h' := itAt_iff.1 h
  simp only [World.putIt]
  congr 1
  apply Array.ext_getElem?
  intro j
  rw [Array.getElem?_setIfInBounds, Array.getElem?_modify]
  by_cases hj : n = j
  · subst hj
    have hlt : n < w.heap.size := (Array.getElem?_eq_some_iff.1 h').1
    rw [h']
    simp [hlt, overIter]
  · simp [hj]
theorem run_getIt {P : Program} {w : World} {n : Nat} {m : Option Nat} {s : Nat} {seen : Array Nat} {c : Nat} (h : w.itAt n = some (m, s, seen, c)) : (getObj n).run P w = .ok (.mapIter m s seen c) w := by
  have h := itAt_iff.1 h
  simp [getObj, Sem.run, h]
theorem run_setIt {P : Program} {w : World} {n : Nat} {m : Option Nat} {s : Nat} {seen : Array Nat} {c : Nat} (h : w.itAt n = some (m, s, seen, c)) (seen' : Array Nat) (c' : Nat) : (setObj n (.mapIter m s seen' c')).run P w = .ok () (w.putIt n seen' c') := by
  have h' := itAt_iff.1 h
  simp [setObj, Sem.run, h', ← putIt_setIn h]

/-- all has been told -/
theorem run_next_over {P : Program} {w : World} {n m s : Nat} {seen : Array Nat} {c : Nat} {es : Array MapEntry} {ck : Nat} (hi : w.itAt n = some (some m, s, seen, c)) (hm : w.mapAt m = some (es, ck))
    (hc : ∀ e ∈ es.toList, e.born < c) (hl : leftE es seen = []) (ty : TypeId) :
    (Instr.next (.pointer (some ⟨n, 0, none⟩)) false ty).run P w = .ok (.tuple #[.bool false]) w := by
  have hg : (es.filter fun e => !seen.contains e.born) = #[] := by
    apply Array.toList_inj.1; rw [Array.toList_filter]; exact hl
  have h0 : (!seen.isEmpty && !es.isEmpty && es.all (fun e => decide (e.born ≥ c))) = false := by
    cases hes : es.isEmpty
    · have : es.all (fun e => decide (e.born ≥ c)) = false := by
        rw [Array.all_eq_false]
        have hne : 0 < es.size := by
          rcases Nat.eq_zero_or_pos es.size with h | h
          · simp [Array.isEmpty, h] at hes
          · exact h
        exact ⟨0, hne, by have := hc es[0] (by simp); simp; omega⟩
      simp [this]
    · simp
  simp only [Instr.next, Sem.run_bind, run_getIt hi, Result.andThen_ok, run_getMap hm]
  rw [h0]
  simp only [Bool.false_eq_true, if_false, hg]
  simp [choose, Sem.run, Question.forced]

theorem run_choose_forced {P : Program} {w : World} {q : Question} (h : q.forced = true) : (choose q).run P w = .ok 0 w := by simp [choose, Sem.run, h]
theorem run_choose_drawn {P : Program} {w : World} {q : Question} (h : q.forced = false) : (choose q).run P w = .ok (q.cut (w.tape w.drawn q)) w.drew := by simp [choose, Sem.run, h]
/-- one more is told: some one of those that are left -/
theorem run_next_some {P : Program} {w : World} {n m s : Nat} {seen : Array Nat} {c : Nat} {es : Array MapEntry} {ck : Nat} (hi : w.itAt n = some (some m, s, seen, c)) (hm : w.mapAt m = some (es, ck))
    (hc : ∀ e ∈ es.toList, e.born < c) (hs : ∀ e ∈ es.toList, e.born < s) (hl : leftE es seen ≠ []) (ty : TypeId) :
    ∃ e ∈ leftE es seen, ∃ W, (W = w ∨ W = w.drew) ∧ (Instr.next (.pointer (some ⟨n, 0, none⟩)) false ty).run P w = .ok (.tuple #[.bool true, e.key, e.val]) (W.putIt n (seen.push e.born) ck) := by
  have hmem : ∀ e, e ∈ (es.filter fun e => !seen.contains e.born) ↔ e ∈ leftE es seen := by
    intro e; unfold leftE; simp
  generalize hL : (es.filter fun e => !seen.contains e.born) = L at hmem
  have hLne : 0 < L.size := by
    obtain ⟨e, he⟩ := List.exists_mem_of_ne_nil _ hl
    have := (hmem e).2 he
    obtain ⟨i, hi, _⟩ := Array.mem_iff_getElem.1 this
    omega
  have hold : L.filter (fun e => decide (e.born < s)) = L := by
    rw [Array.filter_eq_self]
    intro e he
    have := (hmem e).1 he
    unfold leftE at this
    simp only [List.mem_filter] at this
    simpa using hs e this.1
  have hnew : L.filter (fun e => decide (e.born ≥ s)) = #[] := by
    rw [Array.filter_eq_empty_iff]
    intro e he
    have := (hmem e).1 he
    unfold leftE at this
    simp only [List.mem_filter] at this
    have := hs e this.1
    simp; omega
  have h0 : (!seen.isEmpty && !es.isEmpty && es.all (fun e => decide (e.born ≥ c))) = false := by
    cases hes : es.isEmpty
    · have : es.all (fun e => decide (e.born ≥ c)) = false := by
        rw [Array.all_eq_false]
        have hne : 0 < es.size := by
          rcases Nat.eq_zero_or_pos es.size with h | h
          · simp [Array.isEmpty, h] at hes
          · exact h
        exact ⟨0, hne, by have := hc es[0] (by simp); simp; omega⟩
      simp [this]
    · simp
  have hemp : L.isEmpty = false := by
    rw [Array.isEmpty_eq_false_iff]
    intro h; rw [h] at hLne; simp at hLne
  -- the draw
  have key : ∀ (t : Nat), t < L.size → ∃ e ∈ leftE es seen, L[t]? = some e := by
    intro t ht
    exact ⟨L[t], (hmem _).1 (by simp), Array.getElem?_eq_getElem ht⟩
  by_cases h1 : L.size ≤ 1
  · obtain ⟨e, he, hte⟩ := key 0 hLne
    refine ⟨e, he, w, .inl rfl, ?_⟩
    simp only [Instr.next, Sem.run_bind, run_getIt hi, Result.andThen_ok, run_getMap hm]
    rw [h0]
    simp only [Bool.false_eq_true, if_false, hL, hold, hnew, hemp]
    have hf : (Question.mapNext ((#[] : Array (Option MapEntry)) ++ (L ++ (#[] : Array MapEntry)).map some).size).forced = true := by simp [Question.forced, h1]
    rw [Sem.run_bind, run_choose_forced hf]
    simp [hte, run_setIt hi]
  · have ht : ∀ q : Nat, q % L.size < L.size := fun q => Nat.mod_lt _ hLne
    generalize hq : w.tape w.drawn (Question.mapNext L.size) = q
    obtain ⟨e, he, hte⟩ := key (q % L.size) (ht q)
    refine ⟨e, he, w.drew, .inr rfl, ?_⟩
    have hi' : w.drew.itAt n = some (some m, s, seen, c) := hi
    simp only [Instr.next, Sem.run_bind, run_getIt hi, Result.andThen_ok, run_getMap hm]
    rw [h0]
    simp only [Bool.false_eq_true, if_false, hL, hold, hnew, hemp]
    have hsz : ((#[] : Array (Option MapEntry)) ++ (L ++ (#[] : Array MapEntry)).map some).size = L.size := by simp
    have hf : (Question.mapNext ((#[] : Array (Option MapEntry)) ++ (L ++ (#[] : Array MapEntry)).map some).size).forced = false := by simp [Question.forced]; omega
    rw [Sem.run_bind, run_choose_drawn hf]
    simp only [Result.andThen_ok, hsz, Question.cut, hq]
    simp [hte, run_setIt hi']

open Classical in
noncomputable def onMapAny {α : Type} (o : Option (Array MapEntry × Nat)) (f : Array MapEntry → Nat → Result α) (alt : Result α) : Result α :=
  match o with
  | some x => f x.1 x.2
  | none => alt
@[go_sem] theorem onMapAny_some {α : Type} (es : Array MapEntry) (ck : Nat) (f : Array MapEntry → Nat → Result α) (alt : Result α) : onMapAny (some (es, ck)) f alt = f es ck := rfl
noncomputable def range0 (t : TypeId) (m : Value) (w : World) : Result Value := (Instr.range t m).run Tryz.prog w
@[go_sem] theorem range_MValue (w : World) (m : Nat) : (Instr.range 76 (.map (some m))).run Tryz.prog w =
    onMapAny (w.mapAt m) (fun _ ck => .ok (.pointer (some ⟨w.heap.size, 0, none⟩)) (w.alloc (.mapIter (some m) ck #[] ck))) (range0 76 (.map (some m)) w) := by
  unfold onMapAny
  split
  · rename_i x h
    obtain ⟨es, ck⟩ := x
    unfold Instr.range
    simp [run_underlying un_MValue, run_getMap h]
  · rfl
@[go_sem] theorem range_MContent (w : World) (m : Nat) : (Instr.range 64 (.map (some m))).run Tryz.prog w =
    onMapAny (w.mapAt m) (fun _ ck => .ok (.pointer (some ⟨w.heap.size, 0, none⟩)) (w.alloc (.mapIter (some m) ck #[] ck))) (range0 64 (.map (some m)) w) := by
  unfold onMapAny
  split
  · rename_i x h
    obtain ⟨es, ck⟩ := x
    unfold Instr.range
    simp [run_underlying un_MContent, run_getMap h]
  · rfl
@[go_sem] theorem range_MAreas (w : World) (m : Nat) : (Instr.range 132 (.map (some m))).run Tryz.prog w =
    onMapAny (w.mapAt m) (fun _ ck => .ok (.pointer (some ⟨w.heap.size, 0, none⟩)) (w.alloc (.mapIter (some m) ck #[] ck))) (range0 132 (.map (some m)) w) := by
  unfold onMapAny
  split
  · rename_i x h
    obtain ⟨es, ck⟩ := x
    unfold Instr.range
    simp [run_underlying un_MAreas, run_getMap h]
  · rfl
end Go.Proofs.YtencimimccoofaaGreatDoor
