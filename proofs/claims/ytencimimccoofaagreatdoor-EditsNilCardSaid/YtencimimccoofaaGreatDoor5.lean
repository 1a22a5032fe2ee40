/- Maps keyed by addresses: what a look-up, a store, a delete, a length come to, said of the world by 'mapAt' and 'putMap'. -/
import Derived.Test.YtencimimccoofaaGreatDoor4
import Derived.MapKept
namespace Go.Proofs.YtencimimccoofaaGreatDoor
open Go.RowKit

/-- the map that a block is -/
def _root_.Go.World.mapAt (w : World) (r : Nat) : Option (Array MapEntry × Nat) := match w.heap[r]? with | some (.map es ck) => some (es, ck) | _ => none
def overMap (es : Array MapEntry) (ck : Nat) : Obj → Obj
  | .map _ _ => .map es ck
  | o => o
/-- another content of a map -/
def _root_.Go.World.putMap (w : World) (r : Nat) (es : Array MapEntry) (ck : Nat) : World := { w with heap := w.heap.modify r (overMap es ck) }

theorem mapAt_iff {w : World} {r : Nat} {es : Array MapEntry} {ck : Nat} : w.mapAt r = some (es, ck) ↔ w.heap[r]? = some (.map es ck) := by
  unfold World.mapAt
  constructor
  · intro h; split at h <;> simp_all
  · intro h; simp [h]
theorem mapAt_lt {w : World} {r : Nat} {x : Array MapEntry × Nat} (h : w.mapAt r = some x) : r < w.heap.size := by
  have h' := (mapAt_iff (es := x.1) (ck := x.2)).1 h
  exact (Array.getElem?_eq_some_iff.1 h').1

section
variable (w : World) (r : Nat) (es : Array MapEntry) (ck : Nat)
@[simp] theorem size_putMap : (w.putMap r es ck).heap.size = w.heap.size := by simp [World.putMap]
@[go_sem] theorem oldB_putMap (n : Nat) : (w.putMap r es ck).oldB n = w.oldB n := by simp [World.oldB, World.putMap]
theorem heap_putMap (n : Nat) : (w.putMap r es ck).heap[n]? = if r = n then (w.heap[n]?).map (overMap es ck) else w.heap[n]? := by simp [World.putMap, Array.getElem?_modify]
@[go_sem] theorem cell_putMap (a : Addr) : (w.putMap r es ck).cell? a = w.cell? a := by
  unfold World.cell?; rw [heap_putMap]; by_cases hr : r = a.block
  · rw [if_pos hr]; cases w.heap[a.block]? with
    | none => rfl
    | some o => cases o <;> rfl
  · rw [if_neg hr]
@[go_sem] theorem frozen_putMap (a : Addr) : (w.putMap r es ck).frozen? a = w.frozen? a := by
  unfold World.frozen?; rw [heap_putMap]; by_cases hr : r = a.block
  · rw [if_pos hr]; cases w.heap[a.block]? with
    | none => rfl
    | some o => cases o <;> rfl
  · rw [if_neg hr]
@[go_sem] theorem cellsAt_putMap (n off k : Nat) : (w.putMap r es ck).cellsAt n off k = w.cellsAt n off k := by
  unfold World.cellsAt; rw [heap_putMap]; by_cases hr : r = n
  · rw [if_pos hr]; cases w.heap[n]? with
    | none => rfl
    | some o => cases o <;> rfl
  · rw [if_neg hr]
@[go_sem] theorem hasC_putMap (n m : Nat) : (w.putMap r es ck).hasC n m = w.hasC n m := by
  unfold World.hasC; rw [heap_putMap]; by_cases hr : r = n
  · rw [if_pos hr]; cases w.heap[n]? with
    | none => rfl
    | some o => cases o <;> rfl
  · rw [if_neg hr]
@[go_sem] theorem freeC_putMap (n m : Nat) : (w.putMap r es ck).freeC n m = w.freeC n m := by
  unfold World.freeC; rw [heap_putMap]; by_cases hr : r = n
  · rw [if_pos hr]; cases w.heap[n]? with
    | none => rfl
    | some o => cases o <;> rfl
  · rw [if_neg hr]
theorem modify_comm {α : Type} (a : Array α) (i j : Nat) (f g : α → α) (h : ∀ x, f (g x) = g (f x)) : (a.modify i f).modify j g = (a.modify j g).modify i f := by
  apply Array.ext_getElem?
  intro n
  simp only [Array.getElem?_modify]
  split <;> split <;> (try rfl)
  cases a[n]? <;> simp [h]
@[go_sem] theorem setCell_putMap (a : Addr) (v : Value) : (w.putMap r es ck).setCell a v = (w.setCell a v).putMap r es ck := by
  simp only [World.putMap, World.setCell]
  rw [modify_comm]
  intro o; cases o <;> rfl
@[go_sem] theorem putC_putMap (n off : Nat) (vs : Array Value) : (w.putMap r es ck).putC n off vs = (w.putC n off vs).putMap r es ck := by
  simp only [World.putMap, World.putC]
  rw [modify_comm]
  intro o; cases o <;> rfl
@[go_sem] theorem mapAt_putMap_same (h : (w.mapAt r).isSome = true) : (w.putMap r es ck).mapAt r = some (es, ck) := by
  unfold World.mapAt at *
  rw [heap_putMap, if_pos rfl]
  split at h
  · rename_i hh; rw [hh]; rfl
  · cases h
@[go_sem] theorem mapAt_putMap_other (n : Nat) (h : r ≠ n) : (w.putMap r es ck).mapAt n = w.mapAt n := by
  unfold World.mapAt; rw [heap_putMap, if_neg h]
@[go_sem] theorem mapAt_alloc_past (o : Obj) (n : Nat) (hn : w.oldB n = true) : (w.alloc o).mapAt n = w.mapAt n := by unfold World.mapAt; rw [Below.heap_alloc w o n (oldB_lt hn)]
@[go_sem] theorem mapAt_alloc_at (n : Nat) (hn : n = w.heap.size) : (w.alloc (.map es ck)).mapAt n = some (es, ck) := by subst hn; unfold World.mapAt; rw [heap_alloc_new]
@[go_sem] theorem mapAt_drew (n : Nat) : w.drew.mapAt n = w.mapAt n := rfl
@[go_sem] theorem mapAt_ext (E : Array Obj) (d n : Nat) (hn : w.oldB n = true) : (w.ext E d).mapAt n = w.mapAt n := by unfold World.mapAt; rw [heap_ext w E d n (oldB_lt hn)]
@[go_sem] theorem mapAt_setCell (a : Addr) (v : Value) (n : Nat) : (w.setCell a v).mapAt n = w.mapAt n := by
  unfold World.mapAt; simp only [World.setCell, Array.getElem?_modify]; by_cases hr : a.block = n
  · rw [if_pos hr]; cases w.heap[n]? with
    | none => rfl
    | some o => cases o <;> rfl
  · rw [if_neg hr]
@[go_sem] theorem mapAt_putC (m off : Nat) (vs : Array Value) (n : Nat) : (w.putC m off vs).mapAt n = w.mapAt n := by
  unfold World.mapAt; simp only [World.putC, Array.getElem?_modify]; by_cases hr : m = n
  · rw [if_pos hr]; cases w.heap[n]? with
    | none => rfl
    | some o => cases o <;> rfl
  · rw [if_neg hr]
@[go_sem] theorem putMap_ext (E : Array Obj) (d : Nat) (hn : w.oldB r = true) : (w.ext E d).putMap r es ck = (w.putMap r es ck).ext E d := by
  have hn := oldB_lt hn
  simp only [World.ext, World.putMap]
  congr 1
  apply Array.ext_getElem?
  intro j
  simp only [Array.getElem?_modify, Array.getElem?_append, Array.size_modify]
  split
  · subst_vars; simp [hn]
  · rfl
@[go_sem] theorem putMap_drew : w.drew.putMap r es ck = (w.putMap r es ck).drew := rfl
@[go_sem] theorem putMap_alloc_past (o : Obj) (hn : w.oldB r = true) : (w.alloc o).putMap r es ck = (w.putMap r es ck).alloc o := by
  have hn := oldB_lt hn
  simp only [World.putMap, World.alloc]
  congr 1
  apply Array.ext_getElem?
  intro j
  rw [Array.getElem?_modify, Array.getElem?_push, Array.getElem?_push, Array.size_modify, Array.getElem?_modify]
  by_cases hj : j = w.heap.size
  · subst hj; rw [if_neg (by omega)]; simp
  · simp [hj]
@[go_sem] theorem putMap_alloc_at (es' : Array MapEntry) (ck' n : Nat) (hn : n = w.heap.size) : (w.alloc (.map es' ck')).putMap n es ck = w.alloc (.map es ck) := by
  subst hn
  simp only [World.putMap, World.alloc]
  congr 1
  apply Array.ext_getElem?
  intro j
  rw [Array.getElem?_modify, Array.getElem?_push, Array.getElem?_push]
  by_cases hj : j = w.heap.size
  · subst hj; simp [overMap]
  · rw [if_neg (fun h => hj h.symm), if_neg hj, if_neg hj]
@[go_sem] theorem putMap_putMap (es' : Array MapEntry) (ck' : Nat) : (w.putMap r es ck).putMap r es' ck' = w.putMap r es' ck' := by
  simp only [World.putMap]
  congr 1
  apply Array.ext_getElem?
  intro j
  simp only [Array.getElem?_modify]
  split
  · cases w.heap[j]? with
    | none => rfl
    | some o => cases o <;> rfl
  · rfl
theorem putMap_self (h : w.mapAt r = some (es, ck)) : w.putMap r es ck = w := by
  have h' := mapAt_iff.1 h
  have : w.heap.modify r (overMap es ck) = w.heap := by
    apply Array.ext_getElem?
    intro j
    rw [Array.getElem?_modify]
    split
    · subst_vars; rw [h']; rfl
    · rfl
  simp [World.putMap, this]
theorem putMap_setIn (h : w.mapAt r = some (es, ck)) (es' : Array MapEntry) (ck' : Nat) : { w with heap := w.heap.setIfInBounds r (.map es' ck') } = w.putMap r es' ck' := by
  have h' := mapAt_iff.1 h
  simp only [World.putMap]
  congr 1
  apply Array.ext_getElem?
  intro j
  rw [Array.getElem?_setIfInBounds, Array.getElem?_modify]
  by_cases hj : r = j
  · subst hj
    have := mapAt_lt h
    rw [h']
    simp [this, overMap]
  · simp [hj]
end

/-! ## Keys -/
abbrev keyV (c r : Int) : Value := .agg #[.int .i64 c, .int .i64 r]
/-- is that value that address? -/
def kEq (c r : Int) (v : Value) : Bool := match v with
  | .agg ⟨[.int .i64 c', .int .i64 r']⟩ => c == c' && r == r'
  | _ => false
/-- are all keys addresses? -/
def AddrKeys (es : Array MapEntry) : Prop := ∀ e ∈ es.toList, ∃ c r, e.key = keyV c r
/-- what a map has at a key -/
def lookE (es : Array MapEntry) (c r : Int) : Option Value := (es.toList.find? fun e => kEq c r e.key).map (·.val)
/-- where a key stands -/
def idxE (es : Array MapEntry) (c r : Int) : Option Nat := es.toList.findIdx? fun e => kEq c r e.key

theorem run_eq_addr (w : World) (c r c' r' : Int) : (Op.equal 24 (keyV c r) (keyV c' r')).run Tryz.prog w = .ok (c == c' && r == r') w := by
  unfold Op.equal Op.maxDepth
  go_simp
  split <;> (try split) <;> simp_all

theorem un_AddrT : Tryz.prog.underlying 24 = some (.struct (Tryz.prog.fieldsOf 24)) := un_Addr

theorem run_checkKey_addr (w : World) (e : Bool) (c r : Int) : (Instr.checkKey e 10000 24 (keyV c r)).run Tryz.prog w = .ok () w := by
  kernel_rfl

theorem run_getMap {P : Program} {w : World} {m : Nat} {es : Array MapEntry} {ck : Nat} (hm : w.mapAt m = some (es, ck)) : (getObj m).run P w = .ok (.map es ck) w := by
  have h := mapAt_iff.1 hm
  simp [getObj, Sem.run, h]
theorem run_setMap {P : Program} {w : World} {m : Nat} {es : Array MapEntry} {ck : Nat} (hm : w.mapAt m = some (es, ck)) (es' : Array MapEntry) (ck' : Nat) : (setObj m (.map es' ck')).run P w = .ok () (w.putMap m es' ck') := by
  have h := mapAt_iff.1 hm
  simp [setObj, Sem.run, h, ← putMap_setIn w m es ck hm]
theorem lookE_idx (es : Array MapEntry) (c r : Int) : lookE es c r = (idxE es c r).map fun j => (es.toList.getD j default).val := by
  unfold lookE idxE
  induction es.toList with
  | nil => rfl
  | cons e l ih =>
    rw [List.find?_cons, List.findIdx?_cons]
    cases kEq c r e.key
    · simp only [Bool.false_eq_true, if_false, ih]
      cases List.findIdx? (fun e => kEq c r e.key) l <;> simp
    · simp

theorem run_findAsking (w : World) (c r : Int) : ∀ (l : List MapEntry) (i : Nat), (∀ e ∈ l, ∃ c r, e.key = keyV c r) →
    (Instr.findAsking 24 (keyV c r) l i).run Tryz.prog w = .ok ((l.findIdx? fun e => kEq c r e.key).map fun j => (i + j, (l.getD j default).val)) w
  | [], i, _ => by simp [Instr.findAsking]
  | e :: l, i, h => by
    obtain ⟨c', r', he⟩ := h e (by simp)
    have ih := run_findAsking w c r l (i + 1) fun e he => h e (by simp [he])
    simp only [Instr.findAsking, Sem.run_bind, he, run_eq_addr, Result.andThen_ok, Sem.run_ite]
    have hk : kEq c r e.key = (c == c' && r == r') := by rw [he]; rfl
    rw [List.findIdx?_cons, hk]
    by_cases hc : (c == c' && r == r') = true
    · simp [hc]
    · simp only [hc, Bool.false_eq_true, if_false, ih]
      cases List.findIdx? (fun e => kEq c r e.key) l <;> simp [Nat.add_assoc, Nat.add_comm 1]

theorem findNow_struct (fs : Array Field) (k : Value) (l : List MapEntry) (i : Nat) : Instr.findNow (.struct fs) k l i = none ∨ (l = [] ∧ Instr.findNow (.struct fs) k l i = some none) := by
  cases l with
  | nil => exact .inr ⟨rfl, rfl⟩
  | cons e l => exact .inl (by simp [Instr.findNow, Instr.sameNow])

theorem run_findKey (w : World) (c r : Int) (es : Array MapEntry) (h : AddrKeys es) :
    (Instr.findKey 24 (keyV c r) es.toList).run Tryz.prog w = .ok ((idxE es c r).map fun j => (j, (es.toList.getD j default).val)) w := by
  unfold Instr.findKey
  simp only [Sem.run_bind, run_underlying un_Addr, Result.andThen_ok]
  rcases findNow_struct (Tryz.prog.fieldsOf 24) (keyV c r) es.toList 0 with h1 | ⟨h2, h1⟩
  · rw [h1]
    have := run_findAsking w c r es.toList 0 h
    simpa [idxE] using this
  · rw [h1, h2]
    simp [idxE, h2]

/-! ### The operations -/
/-- a map behind a store -/
def updE (es : Array MapEntry) (ck : Nat) (c r : Int) (v : Value) : Array MapEntry × Nat :=
  match idxE es c r with
  | some i => (es.modify i fun e => { e with key := keyV c r, val := v }, ck)
  | none => (es.push { key := keyV c r, val := v, born := ck }, ck + 1)
/-- a map behind a delete -/
def delE (es : Array MapEntry) (c r : Int) : Array MapEntry :=
  match idxE es c r with
  | some i => es.eraseIdxIfInBounds i
  | none => es

theorem idxE_some {es : Array MapEntry} {c r : Int} {i : Nat} (h : idxE es c r = some i) (hk : AddrKeys es) : ∃ hi : i < es.size, es[i].key = keyV c r := by
  unfold idxE at h
  rw [List.findIdx?_eq_some_iff_getElem] at h
  obtain ⟨hi, h1, _⟩ := h
  have hi' : i < es.size := by simpa using hi
  refine ⟨hi', ?_⟩
  obtain ⟨c', r', he⟩ := hk es[i] (by simp)
  have h2 : kEq c r es[i].key = true := by simpa using h1
  rw [he] at h2 ⊢
  simp only [kEq, Bool.and_eq_true, beq_iff_eq] at h2
  rw [h2.1, h2.2]

theorem run_keyThatStays_same {P : Program} (w : World) (c r : Int) : (Instr.keyThatStays (keyV c r) (keyV c r)).run P w = .ok (keyV c r) w := by
  have : Instr.sameBits 10000 (keyV c r) (keyV c r) = true := by
    simp [Instr.sameBits]
  simp [Instr.keyThatStays, this]

section
variable (w : World) {t e : TypeId} (ht : Tryz.prog.underlying t = some (.map 24 e)) (m : Nat) {es : Array MapEntry} {ck : Nat} (hm : w.mapAt m = some (es, ck)) (hk : AddrKeys es) (c r : Int)
include ht hm hk
theorem run_lookup_addr {z : Value} (hz : (zeroValue e).run Tryz.prog w = .ok z w) :
    (Instr.lookup t (.map (some m)) (keyV c r) false).run Tryz.prog w = .ok ((lookE es c r).getD z) w := by
  unfold Instr.lookup
  simp only [Sem.run_bind, run_underlying ht, Result.andThen_ok, run_getMap hm, Sem.run_pure, run_checkKey_addr, run_findKey w c r es hk]
  rw [lookE_idx es c r]
  cases idxE es c r <;> simp [hz]
theorem run_lookup_addr_ok {z : Value} (hz : (zeroValue e).run Tryz.prog w = .ok z w) :
    (Instr.lookup t (.map (some m)) (keyV c r) true).run Tryz.prog w = .ok (.tuple #[(lookE es c r).getD z, .bool (lookE es c r).isSome]) w := by
  unfold Instr.lookup
  simp only [Sem.run_bind, run_underlying ht, Result.andThen_ok, run_getMap hm, Sem.run_pure, run_checkKey_addr, run_findKey w c r es hk]
  rw [lookE_idx es c r]
  cases idxE es c r <;> simp [hz]
theorem run_mapUpdate_addr (v : Value) :
    (Instr.mapUpdate t (.map (some m)) (keyV c r) v).run Tryz.prog w = .ok () (w.putMap m (updE es ck c r v).1 (updE es ck c r v).2) := by
  unfold Instr.mapUpdate
  simp only [Sem.run_bind, run_underlying ht, Result.andThen_ok, run_getMap hm, run_checkKey_addr, run_findKey w c r es hk]
  unfold updE
  cases hi : idxE es c r with
  | none => simp [run_setMap hm]
  | some i =>
    obtain ⟨hi1, hi2⟩ := idxE_some hi hk
    have hg : (Option.map (fun x => x.key) es[i]?).getD (keyV c r) = keyV c r := by simp [hi1, hi2]
    simp only [Option.map_some, Sem.run_bind, hg, run_keyThatStays_same, Result.andThen_ok, run_setMap hm]
theorem run_delete_addr (ty : TypeId) :
    (Builtin.delete_ #[t, 24] ty #[.map (some m), keyV c r]).run Tryz.prog w = .ok (.tuple #[]) (w.putMap m (delE es c r) ck) := by
  unfold Builtin.delete_
  simp only [Sem.run_bind, run_underlying ht, Result.andThen_ok, run_getMap hm, run_checkKey_addr, run_findKey w c r es hk, List.getElem?_toArray, List.getElem?_cons_zero, List.getElem?_cons_succ]
  unfold delE
  cases hi : idxE es c r <;> simp [run_setMap hm]
end

/-! ### As rules of the walk: the map is asked of the world, and the answer stands written out where its entries are known -/
open Classical in
/-- a step on a map that the world has; 'alt' where it has none -/
noncomputable def onMap {α : Type} (o : Option (Array MapEntry × Nat)) (f : Array MapEntry → Nat → Result α) (alt : Result α) : Result α :=
  match o with
  | some x => if AddrKeys x.1 then f x.1 x.2 else alt
  | none => alt
@[go_sem] theorem onMap_some {α : Type} (es : Array MapEntry) (ck : Nat) (f : Array MapEntry → Nat → Result α) (alt : Result α) (h : AddrKeys es) : onMap (some (es, ck)) f alt = f es ck := by simp [onMap, h]
theorem onMap_eq {α : Type} {o : Option (Array MapEntry × Nat)} {f : Array MapEntry → Nat → Result α} {alt : Result α} {x : Result α} (ha : x = alt) (h : ∀ es ck, o = some (es, ck) → AddrKeys es → x = f es ck) : x = onMap o f alt := by
  unfold onMap
  split
  · split
    · exact h _ _ rfl (by assumption)
    · exact ha
  · exact ha
/-- the same, not opened by the walk -/
noncomputable def lookup0 (t : TypeId) (m k : Value) (b : Bool) (w : World) : Result Value := (Instr.lookup t m k b).run Tryz.prog w
noncomputable def update0 (t : TypeId) (m k v : Value) (w : World) : Result Unit := (Instr.mapUpdate t m k v).run Tryz.prog w
noncomputable def len0 (t ty : TypeId) (m : Value) (w : World) : Result Value := (Builtin.len_ #[t] ty #[m]).run Tryz.prog w
noncomputable def delete0 (t u ty : TypeId) (m k : Value) (w : World) : Result Value := (Builtin.delete_ #[t, u] ty #[m, k]).run Tryz.prog w

theorem un_MValue : Tryz.prog.underlying 76 = some (.map 24 40) := by kernel_rfl
theorem zero_MValue (w : World) : (zeroValue 40).run Tryz.prog w = .ok (.agg #[.int .i64 0, .float .f64 0, .string ⟨#[]⟩, .bool false, .int .i64 0]) w := by kernel_rfl
@[go_sem] theorem len_MValue (w : World) (ty : TypeId) (m : Nat) : (Builtin.len_ #[76] ty #[.map (some m)]).run Tryz.prog w =
    onMap (w.mapAt m) (fun es _ => .ok (.int .i64 es.size) w) (len0 76 ty (.map (some m)) w) :=
  onMap_eq rfl fun _ _ h _ => by
    unfold Builtin.len_
    simp [run_underlying un_MValue, run_getMap h, goInt]
@[go_sem] theorem look_MValue (w : World) (m : Nat) (c r : Int) : (Instr.lookup 76 (.map (some m)) (.agg #[.int .i64 c, .int .i64 r]) false).run Tryz.prog w =
    onMap (w.mapAt m) (fun es _ => .ok ((lookE es c r).getD (.agg #[.int .i64 0, .float .f64 0, .string ⟨#[]⟩, .bool false, .int .i64 0])) w) (lookup0 76 (.map (some m)) (.agg #[.int .i64 c, .int .i64 r]) false w) :=
  onMap_eq rfl fun _ _ h hk => run_lookup_addr w un_MValue m h hk c r (zero_MValue w)
@[go_sem] theorem lookOk_MValue (w : World) (m : Nat) (c r : Int) : (Instr.lookup 76 (.map (some m)) (.agg #[.int .i64 c, .int .i64 r]) true).run Tryz.prog w =
    onMap (w.mapAt m) (fun es _ => .ok (.tuple #[(lookE es c r).getD (.agg #[.int .i64 0, .float .f64 0, .string ⟨#[]⟩, .bool false, .int .i64 0]), .bool (lookE es c r).isSome]) w) (lookup0 76 (.map (some m)) (.agg #[.int .i64 c, .int .i64 r]) true w) :=
  onMap_eq rfl fun _ _ h hk => run_lookup_addr_ok w un_MValue m h hk c r (zero_MValue w)
@[go_sem] theorem upd_MValue (w : World) (m : Nat) (c r : Int) (v : Value) : (Instr.mapUpdate 76 (.map (some m)) (.agg #[.int .i64 c, .int .i64 r]) v).run Tryz.prog w =
    onMap (w.mapAt m) (fun es ck => .ok () (w.putMap m (updE es ck c r v).1 (updE es ck c r v).2)) (update0 76 (.map (some m)) (.agg #[.int .i64 c, .int .i64 r]) v w) :=
  onMap_eq rfl fun _ _ h hk => run_mapUpdate_addr w un_MValue m h hk c r v
@[go_sem] theorem del_MValue (w : World) (ty : TypeId) (m : Nat) (c r : Int) : (Builtin.delete_ #[76, 24] ty #[.map (some m), .agg #[.int .i64 c, .int .i64 r]]).run Tryz.prog w =
    onMap (w.mapAt m) (fun es ck => .ok (.tuple #[]) (w.putMap m (delE es c r) ck)) (delete0 76 24 ty (.map (some m)) (.agg #[.int .i64 c, .int .i64 r]) w) :=
  onMap_eq rfl fun _ _ h hk => run_delete_addr w un_MValue m h hk c r ty

theorem un_MContent : Tryz.prog.underlying 64 = some (.map 24 51) := by kernel_rfl
theorem zero_MContent (w : World) : (zeroValue 51).run Tryz.prog w = .ok (.agg #[.int .i64 0, .int .i64 0, .float .f64 0, .string ⟨#[]⟩, .bool false, .int .i64 0, .int .i64 0, .int .i64 0, .float .f64 0, .string ⟨#[]⟩, .bool false, .int .i64 0, .int .i64 0, .int .i64 0, .bool false, .bool false, .int .i64 0, .int .i64 0, .bool false, .bool false, .slice none 0 0]) w := by kernel_rfl
@[go_sem] theorem len_MContent (w : World) (ty : TypeId) (m : Nat) : (Builtin.len_ #[64] ty #[.map (some m)]).run Tryz.prog w =
    onMap (w.mapAt m) (fun es _ => .ok (.int .i64 es.size) w) (len0 64 ty (.map (some m)) w) :=
  onMap_eq rfl fun _ _ h _ => by
    unfold Builtin.len_
    simp [run_underlying un_MContent, run_getMap h, goInt]
@[go_sem] theorem look_MContent (w : World) (m : Nat) (c r : Int) : (Instr.lookup 64 (.map (some m)) (.agg #[.int .i64 c, .int .i64 r]) false).run Tryz.prog w =
    onMap (w.mapAt m) (fun es _ => .ok ((lookE es c r).getD (.agg #[.int .i64 0, .int .i64 0, .float .f64 0, .string ⟨#[]⟩, .bool false, .int .i64 0, .int .i64 0, .int .i64 0, .float .f64 0, .string ⟨#[]⟩, .bool false, .int .i64 0, .int .i64 0, .int .i64 0, .bool false, .bool false, .int .i64 0, .int .i64 0, .bool false, .bool false, .slice none 0 0])) w) (lookup0 64 (.map (some m)) (.agg #[.int .i64 c, .int .i64 r]) false w) :=
  onMap_eq rfl fun _ _ h hk => run_lookup_addr w un_MContent m h hk c r (zero_MContent w)
@[go_sem] theorem lookOk_MContent (w : World) (m : Nat) (c r : Int) : (Instr.lookup 64 (.map (some m)) (.agg #[.int .i64 c, .int .i64 r]) true).run Tryz.prog w =
    onMap (w.mapAt m) (fun es _ => .ok (.tuple #[(lookE es c r).getD (.agg #[.int .i64 0, .int .i64 0, .float .f64 0, .string ⟨#[]⟩, .bool false, .int .i64 0, .int .i64 0, .int .i64 0, .float .f64 0, .string ⟨#[]⟩, .bool false, .int .i64 0, .int .i64 0, .int .i64 0, .bool false, .bool false, .int .i64 0, .int .i64 0, .bool false, .bool false, .slice none 0 0]), .bool (lookE es c r).isSome]) w) (lookup0 64 (.map (some m)) (.agg #[.int .i64 c, .int .i64 r]) true w) :=
  onMap_eq rfl fun _ _ h hk => run_lookup_addr_ok w un_MContent m h hk c r (zero_MContent w)
@[go_sem] theorem upd_MContent (w : World) (m : Nat) (c r : Int) (v : Value) : (Instr.mapUpdate 64 (.map (some m)) (.agg #[.int .i64 c, .int .i64 r]) v).run Tryz.prog w =
    onMap (w.mapAt m) (fun es ck => .ok () (w.putMap m (updE es ck c r v).1 (updE es ck c r v).2)) (update0 64 (.map (some m)) (.agg #[.int .i64 c, .int .i64 r]) v w) :=
  onMap_eq rfl fun _ _ h hk => run_mapUpdate_addr w un_MContent m h hk c r v
@[go_sem] theorem del_MContent (w : World) (ty : TypeId) (m : Nat) (c r : Int) : (Builtin.delete_ #[64, 24] ty #[.map (some m), .agg #[.int .i64 c, .int .i64 r]]).run Tryz.prog w =
    onMap (w.mapAt m) (fun es ck => .ok (.tuple #[]) (w.putMap m (delE es c r) ck)) (delete0 64 24 ty (.map (some m)) (.agg #[.int .i64 c, .int .i64 r]) w) :=
  onMap_eq rfl fun _ _ h hk => run_delete_addr w un_MContent m h hk c r ty

theorem un_MInt : Tryz.prog.underlying 104 = some (.map 24 3) := by kernel_rfl
theorem zero_MInt (w : World) : (zeroValue 3).run Tryz.prog w = .ok (.int .i64 0) w := by kernel_rfl
@[go_sem] theorem len_MInt (w : World) (ty : TypeId) (m : Nat) : (Builtin.len_ #[104] ty #[.map (some m)]).run Tryz.prog w =
    onMap (w.mapAt m) (fun es _ => .ok (.int .i64 es.size) w) (len0 104 ty (.map (some m)) w) :=
  onMap_eq rfl fun _ _ h _ => by
    unfold Builtin.len_
    simp [run_underlying un_MInt, run_getMap h, goInt]
@[go_sem] theorem look_MInt (w : World) (m : Nat) (c r : Int) : (Instr.lookup 104 (.map (some m)) (.agg #[.int .i64 c, .int .i64 r]) false).run Tryz.prog w =
    onMap (w.mapAt m) (fun es _ => .ok ((lookE es c r).getD (.int .i64 0)) w) (lookup0 104 (.map (some m)) (.agg #[.int .i64 c, .int .i64 r]) false w) :=
  onMap_eq rfl fun _ _ h hk => run_lookup_addr w un_MInt m h hk c r (zero_MInt w)
@[go_sem] theorem lookOk_MInt (w : World) (m : Nat) (c r : Int) : (Instr.lookup 104 (.map (some m)) (.agg #[.int .i64 c, .int .i64 r]) true).run Tryz.prog w =
    onMap (w.mapAt m) (fun es _ => .ok (.tuple #[(lookE es c r).getD (.int .i64 0), .bool (lookE es c r).isSome]) w) (lookup0 104 (.map (some m)) (.agg #[.int .i64 c, .int .i64 r]) true w) :=
  onMap_eq rfl fun _ _ h hk => run_lookup_addr_ok w un_MInt m h hk c r (zero_MInt w)
@[go_sem] theorem upd_MInt (w : World) (m : Nat) (c r : Int) (v : Value) : (Instr.mapUpdate 104 (.map (some m)) (.agg #[.int .i64 c, .int .i64 r]) v).run Tryz.prog w =
    onMap (w.mapAt m) (fun es ck => .ok () (w.putMap m (updE es ck c r v).1 (updE es ck c r v).2)) (update0 104 (.map (some m)) (.agg #[.int .i64 c, .int .i64 r]) v w) :=
  onMap_eq rfl fun _ _ h hk => run_mapUpdate_addr w un_MInt m h hk c r v
@[go_sem] theorem del_MInt (w : World) (ty : TypeId) (m : Nat) (c r : Int) : (Builtin.delete_ #[104, 24] ty #[.map (some m), .agg #[.int .i64 c, .int .i64 r]]).run Tryz.prog w =
    onMap (w.mapAt m) (fun es ck => .ok (.tuple #[]) (w.putMap m (delE es c r) ck)) (delete0 104 24 ty (.map (some m)) (.agg #[.int .i64 c, .int .i64 r]) w) :=
  onMap_eq rfl fun _ _ h hk => run_delete_addr w un_MInt m h hk c r ty

theorem un_MAreas : Tryz.prog.underlying 132 = some (.map 24 109) := by kernel_rfl
theorem zero_MAreas (w : World) : (zeroValue 109).run Tryz.prog w = .ok (.slice none 0 0) w := by kernel_rfl
@[go_sem] theorem len_MAreas (w : World) (ty : TypeId) (m : Nat) : (Builtin.len_ #[132] ty #[.map (some m)]).run Tryz.prog w =
    onMap (w.mapAt m) (fun es _ => .ok (.int .i64 es.size) w) (len0 132 ty (.map (some m)) w) :=
  onMap_eq rfl fun _ _ h _ => by
    unfold Builtin.len_
    simp [run_underlying un_MAreas, run_getMap h, goInt]
@[go_sem] theorem look_MAreas (w : World) (m : Nat) (c r : Int) : (Instr.lookup 132 (.map (some m)) (.agg #[.int .i64 c, .int .i64 r]) false).run Tryz.prog w =
    onMap (w.mapAt m) (fun es _ => .ok ((lookE es c r).getD (.slice none 0 0)) w) (lookup0 132 (.map (some m)) (.agg #[.int .i64 c, .int .i64 r]) false w) :=
  onMap_eq rfl fun _ _ h hk => run_lookup_addr w un_MAreas m h hk c r (zero_MAreas w)
@[go_sem] theorem lookOk_MAreas (w : World) (m : Nat) (c r : Int) : (Instr.lookup 132 (.map (some m)) (.agg #[.int .i64 c, .int .i64 r]) true).run Tryz.prog w =
    onMap (w.mapAt m) (fun es _ => .ok (.tuple #[(lookE es c r).getD (.slice none 0 0), .bool (lookE es c r).isSome]) w) (lookup0 132 (.map (some m)) (.agg #[.int .i64 c, .int .i64 r]) true w) :=
  onMap_eq rfl fun _ _ h hk => run_lookup_addr_ok w un_MAreas m h hk c r (zero_MAreas w)
@[go_sem] theorem upd_MAreas (w : World) (m : Nat) (c r : Int) (v : Value) : (Instr.mapUpdate 132 (.map (some m)) (.agg #[.int .i64 c, .int .i64 r]) v).run Tryz.prog w =
    onMap (w.mapAt m) (fun es ck => .ok () (w.putMap m (updE es ck c r v).1 (updE es ck c r v).2)) (update0 132 (.map (some m)) (.agg #[.int .i64 c, .int .i64 r]) v w) :=
  onMap_eq rfl fun _ _ h hk => run_mapUpdate_addr w un_MAreas m h hk c r v
@[go_sem] theorem del_MAreas (w : World) (ty : TypeId) (m : Nat) (c r : Int) : (Builtin.delete_ #[132, 24] ty #[.map (some m), .agg #[.int .i64 c, .int .i64 r]]).run Tryz.prog w =
    onMap (w.mapAt m) (fun es ck => .ok (.tuple #[]) (w.putMap m (delE es c r) ck)) (delete0 132 24 ty (.map (some m)) (.agg #[.int .i64 c, .int .i64 r]) w) :=
  onMap_eq rfl fun _ _ h hk => run_delete_addr w un_MAreas m h hk c r ty
end Go.Proofs.YtencimimccoofaaGreatDoor
