/- Laws of operations that the walks below use: equality of floats inside structs; math.Float64bits and math.Float64frombits. -/
import Derived.Test.YtencimimccoofaaGreatDoorProg
import Derived.WalkKit
import Derived.WalkSpells
import Derived.WalkLawsBesides
import Derived.Deep.RegionHeld3
import Derived.Deep.DrawnRows
import Derived.Deep.QuietTactic
import Derived.BigQuiet
import Derived.Lib.Hide
import Derived.Laws.EntriesVeiled
import Derived.Deep.MidRow
namespace Go.Proofs.YtencimimccoofaaGreatDoor
open Go.RowKit

/-- Are two floats equal, as Go's == says? -/
def feq (x y : Nat) : Bool := FloatKind.f64.format.order x y == some .eq

theorem feq_def (x y : Nat) : Op.floatEq .f64 x y = feq x y := rfl

@[go_sem] theorem run_equalIn_f64 {P : Program} (w : World) (d : Nat) (t : TypeId) (k' : FloatKind) (a b : Nat) (h : P.underlying t = some (.float k')) :
    (Op.equalIn (d + 1) t (.float .f64 a) (.float .f64 b)).run P w = .ok (feq a b) w := by
  simp [Op.equalIn, run_underlying h, feq_def]

theorem float64bits_find : Extern.find Tryz.f45 = some Extern.MathFloatBits.float64bits := by kernel_rfl
theorem float64frombits_find : Extern.find Tryz.f177 = some Extern.MathFloatBits.float64frombits := by kernel_rfl

@[go_sem] theorem run_float64bits (w : World) (x : Nat) : (callFunc 45 #[.float .f64 x]).run Tryz.prog w = .ok (.value (.int .u64 x)) w := by
  rw [run_callFunc_extern (P := Tryz.prog) (f := 45) Tryz.func45 (by kernel_rfl) (by kernel_rfl) (by kernel_rfl) float64bits_find]
  rfl

@[go_sem] theorem run_float64frombits (w : World) (x : Int) : (callFunc 177 #[.int .u64 x]).run Tryz.prog w = .ok (.value (.float .f64 x.toNat)) w := by
  rw [run_callFunc_extern (P := Tryz.prog) (f := 177) Tryz.func177 (by kernel_rfl) (by kernel_rfl) (by kernel_rfl) float64frombits_find]
  rfl

def cmpS (a b : ByteArray) : Int := Extern.BytealgCompare.cmp a b
theorem cmpstring_find : Extern.find Tryz.f205 = some Extern.BytealgCompare.compare := by kernel_rfl
@[go_sem] theorem run_cmpstring (w : World) (a b : ByteArray) : (callFunc 205 #[.string a, .string b]).run Tryz.prog w = .ok (.value (.int .i64 (cmpS a b))) w := by
  rw [run_callFunc_extern (P := Tryz.prog) (f := 205) Tryz.func205 (by kernel_rfl) (by kernel_rfl) (by kernel_rfl) cmpstring_find]
  show ((do pure (goInt (Extern.BytealgCompare.cmp (← Extern.Bytes.bytesOf (.string a)) (← Extern.Bytes.bytesOf (.string b)))) : Sem Value).run Tryz.prog w).andThen _ = _
  simp [Extern.Bytes.bytesOf, cmpS, goInt]

section
variable {P : Program} (w : World) (a : Addr) (m : Mode)
@[go_sem] theorem run_store_float (k : FloatKind) (b : Nat) : (store a (.float k b) m).run P w = stored P w a (.float k b) m := run_store P w a _ m rfl
@[go_sem] theorem run_store_map (r : Option Nat) : (store a (.map r) m).run P w = stored P w a (.map r) m := run_store P w a _ m rfl
@[go_sem] theorem run_store_iface (t : TypeId) (v : Value) : (store a (.iface t v) m).run P w = stored P w a (.iface t v) m := run_store P w a _ m rfl
end
theorem below_tr {B B' : Nat} {w a b : World} (h : Below B' a b) (hB : B ≤ B') (k : Below B w a) : Below B w b := k.trans (h.mono hB)

theorem ret_int {k : IntKind} {a b : Int} (h : a = b) : Ending.returned (.int k a) = .returned (.int k b) := by rw [h]
theorem ret_bool {a b : Bool} (h : a = b) : Ending.returned (.bool a) = .returned (.bool b) := by rw [h]

/-- has a world a block of that number? (Reckoned layer by layer: no condition hangs on another one.) -/
def _root_.Go.World.oldB (w : World) (n : Nat) : Bool := decide (n < w.heap.size)
theorem oldB_lt {w : World} {n : Nat} (h : w.oldB n = true) : n < w.heap.size := by simpa [World.oldB] using h
theorem oldB_of {w : World} {n : Nat} (h : n < w.heap.size) : w.oldB n = true := by simpa [World.oldB] using h
section
variable (w : World) (n : Nat)
@[go_sem] theorem oldB_alloc (o : Obj) : (w.alloc o).oldB n = (w.oldB n || decide (n = w.heap.size)) := by
  rw [Bool.eq_iff_iff]; simp [World.oldB]; omega
@[go_sem] theorem oldB_drew : w.drew.oldB n = w.oldB n := rfl
@[go_sem] theorem oldB_setCell (a : Addr) (v : Value) : (w.setCell a v).oldB n = w.oldB n := by simp [World.oldB, World.setCell]
@[go_sem] theorem oldB_size (k : Nat) : w.oldB (w.heap.size + k) = false := by simp [World.oldB]
@[go_sem] theorem cell_alloc_old (o : Obj) (i : Nat) (hn : w.oldB n = true) : (w.alloc o).cell? ⟨n, i, none⟩ = w.cell? ⟨n, i, none⟩ := by
  unfold World.cell?; rw [Below.heap_alloc w o n (oldB_lt hn)]
@[go_sem] theorem frozen_alloc_old (o : Obj) (i : Nat) (hn : w.oldB n = true) : (w.alloc o).frozen? ⟨n, i, none⟩ = w.frozen? ⟨n, i, none⟩ := by
  unfold World.frozen?; rw [Below.heap_alloc w o n (oldB_lt hn)]
@[go_sem] theorem setCell_alloc_old (o : Obj) (i : Nat) (v : Value) (hn : w.oldB n = true) : (w.alloc o).setCell ⟨n, i, none⟩ v = (w.setCell ⟨n, i, none⟩ v).alloc o :=
  World.setCell_alloc_past (w := w) o n i v (oldB_lt hn)
end

/-! ## Worlds that have grown: 'w.ext E d' is w with the blocks E behind it; d draws in all. -/
def _root_.Go.World.ext (w : World) (E : Array Obj) (d : Nat) : World := { w with heap := w.heap ++ E, drawn := d }

section
variable (w : World) (E : Array Obj) (d : Nat)
@[simp] theorem size_ext : (w.ext E d).heap.size = w.heap.size + E.size := by simp [World.ext]
theorem heap_ext (n : Nat) (hn : n < w.heap.size) : (w.ext E d).heap[n]? = w.heap[n]? := by
  simp only [World.ext]
  rw [Array.getElem?_append_left hn]
@[go_sem] theorem cell_ext (n i : Nat) (hn : w.oldB n = true) : (w.ext E d).cell? ⟨n, i, none⟩ = w.cell? ⟨n, i, none⟩ := by
  unfold World.cell?; rw [heap_ext w E d n (oldB_lt hn)]
@[go_sem] theorem frozen_ext (n i : Nat) (hn : w.oldB n = true) : (w.ext E d).frozen? ⟨n, i, none⟩ = w.frozen? ⟨n, i, none⟩ := by
  unfold World.frozen?; rw [heap_ext w E d n (oldB_lt hn)]
@[go_sem] theorem setCell_ext (n i : Nat) (v : Value) (hn : w.oldB n = true) : (w.ext E d).setCell ⟨n, i, none⟩ v = (w.setCell ⟨n, i, none⟩ v).ext E d := by
  have hn := oldB_lt hn
  simp only [World.ext, World.setCell]
  congr 1
  apply Array.ext_getElem?
  intro j
  simp only [Array.getElem?_modify, Array.getElem?_append, Array.size_modify]
  split
  · subst_vars; simp [hn]
  · rfl
@[go_sem] theorem drew_ext : (w.ext E d).drew = w.ext E (d + 1) := rfl
@[go_sem] theorem drewN_ext (n : Nat) : (w.ext E d).drewN n = w.ext E (d + n) := rfl
@[go_sem] theorem ext_ext (E' : Array Obj) (d' : Nat) : (w.ext E d).ext E' d' = w.ext (E ++ E') d' := by simp [World.ext, Array.append_assoc]
@[go_sem] theorem oldB_ext (n : Nat) : (w.ext E d).oldB n = (w.oldB n || decide (w.heap.size ≤ n ∧ n < w.heap.size + E.size)) := by
  rw [Bool.eq_iff_iff]; simp [World.oldB]; omega
theorem below_ext {B : Nat} {w₀ : World} (h : Below B w₀ w) (hB : B ≤ w.heap.size) : Below B w₀ (w.ext E d) :=
  h.trans ⟨rfl, rfl, rfl, by simp, fun k hk => heap_ext w E d k (by omega)⟩
end
/-- a world below which nothing has turned is that world, grown -/
theorem ext_of_below {w w' : World} (h : Below w.heap.size w w') : ∃ E d, w' = w.ext E d := by
  refine ⟨w'.heap.extract w.heap.size w'.heap.size, w'.drawn, ?_⟩
  obtain ⟨hos, htape, hout, hsz, hb⟩ := h
  cases w'
  simp only [World.ext] at *
  subst hos htape hout
  congr 1
  apply Array.ext_getElem?
  intro j
  by_cases hj : j < w.heap.size
  · rw [Array.getElem?_append_left hj]; exact hb j hj
  · rw [Array.getElem?_append_right (by omega)]
    simp only [Array.getElem?_extract]
    split
    · congr 1; omega
    · rw [Array.getElem?_eq_none (by omega)]

/-! ## A struct out of a block, and into one, at once -/
/-- the cells n .. of a block -/
def _root_.Go.World.cellsAt (w : World) (n off k : Nat) : Array Value := match w.heap[n]? with | some (.cells c _ _) => c.extract off (off + k) | _ => #[]
/-- has a block so many cells? -/
def _root_.Go.World.hasC (w : World) (n m : Nat) : Bool := match w.heap[n]? with | some (.cells c _ _) => decide (m ≤ c.size) | _ => false
/-- has a block so many cells, and may all of it be written? -/
def _root_.Go.World.freeC (w : World) (n m : Nat) : Bool := match w.heap[n]? with | some (.cells c _ (lo, hi)) => decide (m ≤ c.size) && lo == 0 && hi == 0 | _ => false
/-- an array with a list laid over it from a place on -/
def splice (c : Array Value) (off : Nat) (vs : List Value) : Array Value := (c.toList.take off ++ (vs ++ c.toList.drop (off + vs.length))).toArray
def overCells (off : Nat) (vs : List Value) : Obj → Obj
  | .cells c t fz => .cells (splice c off vs) t fz
  | o => o
/-- so many cells written -/
def _root_.Go.World.putC (w : World) (n off : Nat) (vs : Array Value) : World := { w with heap := w.heap.modify n (overCells off vs.toList) }

theorem splice_cons (c : Array Value) (off : Nat) (v : Value) (r : List Value) (h : off < c.size) : splice c off (v :: r) = splice (c.setIfInBounds off v) (off + 1) r := by
  obtain ⟨l⟩ := c
  have h' : off < l.length := by simpa using h
  unfold splice
  simp only [List.setIfInBounds_toArray]
  congr 1
  rw [List.take_set, List.drop_set_of_lt (by omega), List.take_succ_eq_append_getElem h', List.set_append]
  have hl : (List.take off l).length = off := by simp; omega
  rw [hl]
  simp [List.length_cons, Nat.add_assoc, Nat.add_comm 1]

section
variable {P : Program} (w : World) (E : Array Obj) (d : Nat)
theorem rangeAt_cellsAt (n off k : Nat) (h : w.hasC n (off + k) = true) : w.rangeAt n off (w.cellsAt n off k).toList ∧ (w.cellsAt n off k).size = k := by
  unfold World.hasC at h
  unfold World.cellsAt
  split at h
  · rename_i c t fz hh
    simp only [decide_eq_true_eq] at h
    refine ⟨fun j v hv => ?_, by simp only [Array.size_extract]; omega⟩
    unfold World.cell?
    simp only [hh, Option.isSome_none, Bool.false_eq_true, if_false]
    rw [Array.getElem?_toList, Array.getElem?_extract] at hv
    split at hv
    · exact hv
    · cases hv
  · cases h
theorem run_loadAt_struct {t : TypeId} {fs : Array Field} (hu : P.underlying t = some (.struct fs)) {k : Nat} (hk : (P.info? t).map (·.size) = some k) (n off : Nat) (h : w.hasC n (off + k) = true) :
    (Instr.loadAt t (.pointer (some ⟨n, off, none⟩))).run P w = .ok (.agg (w.cellsAt n off k)) w := by
  obtain ⟨h1, h2⟩ := rangeAt_cellsAt w n off k h
  have := run_loadAt_mid (P := P) w n off t (w.cellsAt n off k).toList _ h1 hu rfl (by rw [hk, Array.length_toList, h2])
  simpa using this
theorem putC_eq (n : Nat) (vs : List Value) : ∀ (w : World) (off : Nat), w.hasC n (off + vs.length) = true → w.setCells n off vs = { w with heap := w.heap.modify n (overCells off vs) } := by
  induction vs with
  | nil =>
    intro w off h
    simp only [World.setCells]
    have : w.heap.modify n (overCells off []) = w.heap := by
      apply Array.ext_getElem?
      intro j
      rw [Array.getElem?_modify]
      split
      · cases hj : w.heap[j]? with
        | none => rfl
        | some o => cases o <;> simp [overCells, splice]
      · rfl
    rw [this]
  | cons v r ih =>
    intro w off h
    simp only [World.setCells]
    unfold World.hasC at h
    split at h
    · rename_i c t fz hh
      simp only [decide_eq_true_eq, List.length_cons] at h
      have hn : n < w.heap.size := by
        rcases Nat.lt_or_ge n w.heap.size with h' | h'
        · exact h'
        · rw [Array.getElem?_eq_none h'] at hh; cases hh
      rw [ih]
      · simp only [World.setCell]
        congr 1
        apply Array.ext_getElem?
        intro j
        simp only [Array.getElem?_modify]
        split
        · rename_i hj
          subst hj
          simp only [hh, Option.map_some]
          simp only [overCells, Option.isSome_none, Bool.false_eq_true, if_false]
          rw [splice_cons c off v r (by omega)]
        · rfl
      · unfold World.hasC
        simp only [World.setCell, Array.getElem?_modify, hh]
        simp
        omega
    · cases h
theorem there_freeC (n off k : Nat) (h : w.freeC n (off + k) = true) : w.there n off k ∧ w.hasC n (off + k) = true := by
  unfold World.freeC at h
  split at h
  · rename_i c t lo hi hh
    simp only [Bool.and_eq_true, decide_eq_true_eq, beq_iff_eq] at h
    obtain ⟨⟨h1, rfl⟩, rfl⟩ := h
    refine ⟨fun j hj => ⟨?_, ?_⟩, ?_⟩
    · unfold World.cell?
      simp only [hh, Option.isSome_none, Bool.false_eq_true, if_false]
      rw [Array.getElem?_eq_getElem (by omega)]; rfl
    · unfold World.frozen?
      simp [hh]
    · unfold World.hasC
      simp [hh, h1]
  · cases h
theorem run_storeAt_struct {t : TypeId} {k : Nat} (hk : (P.info? t).map (·.size) = some k) (n off : Nat) (vs : Array Value) (hv : vs.size = k) (h1 : vs.all (·.oneCell') = true) (h : w.freeC n (off + k) = true) :
    (Instr.storeAt t (.pointer (some ⟨n, off, none⟩)) (.agg vs)).run P w = .ok () (w.putC n off vs) := by
  subst hv
  obtain ⟨ht, hc⟩ := there_freeC w n off vs.size h
  rw [run_storeAt_mid (P := P) w n off t vs ht hk h1, putC_eq n vs.toList w off (by simpa using hc)]
  rfl

@[go_sem] theorem cellsAt_ext (n off k : Nat) (hn : w.oldB n = true) : (w.ext E d).cellsAt n off k = w.cellsAt n off k := by unfold World.cellsAt; rw [heap_ext w E d n (oldB_lt hn)]
@[go_sem] theorem hasC_ext (n m : Nat) (hn : w.oldB n = true) : (w.ext E d).hasC n m = w.hasC n m := by unfold World.hasC; rw [heap_ext w E d n (oldB_lt hn)]
@[go_sem] theorem freeC_ext (n m : Nat) (hn : w.oldB n = true) : (w.ext E d).freeC n m = w.freeC n m := by unfold World.freeC; rw [heap_ext w E d n (oldB_lt hn)]
@[go_sem] theorem putC_ext (n off : Nat) (vs : Array Value) (hn : w.oldB n = true) : (w.ext E d).putC n off vs = (w.putC n off vs).ext E d := by
  have hn := oldB_lt hn
  simp only [World.ext, World.putC]
  congr 1
  apply Array.ext_getElem?
  intro j
  simp only [Array.getElem?_modify, Array.getElem?_append, Array.size_modify]
  split
  · subst_vars; simp [hn]
  · rfl
@[go_sem] theorem cellsAt_drew (n off k : Nat) : w.drew.cellsAt n off k = w.cellsAt n off k := rfl
@[go_sem] theorem hasC_drew (n m : Nat) : w.drew.hasC n m = w.hasC n m := rfl
@[go_sem] theorem freeC_drew (n m : Nat) : w.drew.freeC n m = w.freeC n m := rfl
@[go_sem] theorem putC_drew (n off : Nat) (vs : Array Value) : w.drew.putC n off vs = (w.putC n off vs).drew := rfl
@[go_sem] theorem cellsAt_alloc_past (o : Obj) (n off k : Nat) (hn : w.oldB n = true) : (w.alloc o).cellsAt n off k = w.cellsAt n off k := by unfold World.cellsAt; rw [Below.heap_alloc w o n (oldB_lt hn)]
@[go_sem] theorem hasC_alloc_past (o : Obj) (n m : Nat) (hn : w.oldB n = true) : (w.alloc o).hasC n m = w.hasC n m := by unfold World.hasC; rw [Below.heap_alloc w o n (oldB_lt hn)]
@[go_sem] theorem freeC_alloc_past (o : Obj) (n m : Nat) (hn : w.oldB n = true) : (w.alloc o).freeC n m = w.freeC n m := by unfold World.freeC; rw [Below.heap_alloc w o n (oldB_lt hn)]
@[go_sem] theorem cellsAt_alloc_at (c : Array Value) (t : TypeId) (n off k : Nat) (hn : n = w.heap.size) : (w.alloc (.cells c t)).cellsAt n off k = c.extract off (off + k) := by subst hn; unfold World.cellsAt; rw [heap_alloc_new]
@[go_sem] theorem hasC_alloc_at (c : Array Value) (t : TypeId) (n m : Nat) (hn : n = w.heap.size) : (w.alloc (.cells c t)).hasC n m = decide (m ≤ c.size) := by subst hn; unfold World.hasC; rw [heap_alloc_new]
@[go_sem] theorem freeC_alloc_at (c : Array Value) (t : TypeId) (n m : Nat) (hn : n = w.heap.size) : (w.alloc (.cells c t)).freeC n m = decide (m ≤ c.size) := by subst hn; unfold World.freeC; rw [heap_alloc_new]; simp
@[go_sem] theorem putC_alloc_at (c : Array Value) (t : TypeId) (n off : Nat) (vs : Array Value) (hn : n = w.heap.size) : (w.alloc (.cells c t)).putC n off vs = w.alloc (.cells (splice c off vs.toList) t) := by
  subst hn
  simp only [World.putC, World.alloc]
  congr 1
  apply Array.ext_getElem?
  intro j
  rw [Array.getElem?_modify, Array.getElem?_push, Array.getElem?_push]
  by_cases hj : j = w.heap.size
  · subst hj; simp [overCells]
  · rw [if_neg (fun h => hj h.symm), if_neg hj, if_neg hj]
@[go_sem] theorem putC_alloc_past (o : Obj) (n off : Nat) (vs : Array Value) (hn : w.oldB n = true) : (w.alloc o).putC n off vs = (w.putC n off vs).alloc o := by
  have hn := oldB_lt hn
  simp only [World.putC, World.alloc]
  congr 1
  apply Array.ext_getElem?
  intro j
  rw [Array.getElem?_modify, Array.getElem?_push, Array.getElem?_push, Array.size_modify, Array.getElem?_modify]
  by_cases hj : j = w.heap.size
  · subst hj; rw [if_neg (by omega)]; simp
  · simp [hj]
@[go_sem] theorem oldB_putC (n off : Nat) (vs : Array Value) (m : Nat) : (w.putC n off vs).oldB m = w.oldB m := by simp [World.oldB, World.putC]
@[simp] theorem size_putC (n off : Nat) (vs : Array Value) : (w.putC n off vs).heap.size = w.heap.size := by simp [World.putC]
end

/-! Fields of values, one by one. -/
section
variable (w : World) (v0 v1 v2 v3 v4 : Value)
@[go_sem] theorem run_field_value0 : (Instr.field 40 (.agg #[v0, v1, v2, v3, v4]) 0).run Tryz.prog w = .ok v0 w := by kernel_rfl
@[go_sem] theorem run_field_value1 : (Instr.field 40 (.agg #[v0, v1, v2, v3, v4]) 1).run Tryz.prog w = .ok v1 w := by kernel_rfl
end
/-- is each of some values one cell? -/
def allOne : List Value → Bool
  | [] => true
  | v :: r => v.oneCell' && allOne r
theorem allOne_iff : ∀ l : List Value, allOne l = l.all (·.oneCell')
  | [] => rfl
  | v :: r => by simp [allOne, allOne_iff r]
@[go_sem] theorem allOne_nil : allOne [] = true := rfl
@[go_sem] theorem allOne_cons (v : Value) (r : List Value) : allOne (v :: r) = (v.oneCell' && allOne r) := rfl
@[go_sem] theorem oneCell_int (k : IntKind) (n : Int) : (Value.int k n).oneCell' = true := rfl
@[go_sem] theorem oneCell_bool (b : Bool) : (Value.bool b).oneCell' = true := rfl
@[go_sem] theorem oneCell_float (k : FloatKind) (n : Nat) : (Value.float k n).oneCell' = true := rfl
@[go_sem] theorem oneCell_string (s : ByteArray) : (Value.string s).oneCell' = true := rfl
@[go_sem] theorem oneCell_slice (a : Option Addr) (n c : Nat) : (Value.slice a n c).oneCell' = true := rfl
@[go_sem] theorem oneCell_pointer (a : Option Addr) : (Value.pointer a).oneCell' = true := rfl
@[go_sem] theorem oneCell_map (r : Option Nat) : (Value.map r).oneCell' = true := rfl
theorem run_storeAt_struct' {P : Program} (w : World) {t : TypeId} {k : Nat} (hk : (P.info? t).map (·.size) = some k) (n off : Nat) (vs : Array Value) (hv : vs.size = k) (h1 : allOne vs.toList = true) (h : w.freeC n (off + k) = true) :
    (Instr.storeAt t (.pointer (some ⟨n, off, none⟩)) (.agg vs)).run P w = .ok () (w.putC n off vs) :=
  run_storeAt_struct w hk n off vs hv (by rw [allOne_iff] at h1; simpa using h1) h
/-- a load, a store, held back till its operands are reckoned -/
def loadS (P : Program) (t : TypeId) (a : Value) (w : World) : Result Next := (do pure (.value (← Instr.loadAt t a)) : Sem Next).run P w
def storeS (P : Program) (t : TypeId) (a v : Value) (w : World) : Result Next := (do Instr.storeAt t a v; pure .skip : Sem Next).run P w
def loadS0 (P : Program) (t : TypeId) (a : Value) (w : World) : Result Next := loadS P t a w
def storeS0 (P : Program) (t : TypeId) (a v : Value) (w : World) : Result Next := storeS P t a v w
@[go_sem] theorem splice_lit (l : List Value) (off : Nat) (vs : List Value) : splice l.toArray off vs = (l.take off ++ (vs ++ l.drop (off + vs.length))).toArray := rfl
theorem sz_Addr : (Tryz.prog.info? 24).map (·.size) = some 2 := by kernel_rfl
theorem un_Addr : Tryz.prog.underlying 24 = some (.struct (Tryz.prog.fieldsOf 24)) := by kernel_rfl
@[go_sem ↓] theorem exec_load_Addr (ev : Operand → Value) (dst : Option Tmp) (ty : TypeId) (pos : String) (af : Array Edge) (g : Option (Nat × Bool)) (x : Operand) (w : World) : (execOp ev ⟨dst, .load 24 x, ty, pos, af, g⟩).run Tryz.prog w = loadS Tryz.prog 24 (ev x) w := rfl
@[go_sem] theorem load_Addr (w : World) (n off : Nat) : loadS Tryz.prog 24 (.pointer (some ⟨n, off, none⟩)) w = if w.hasC n (off + 2) = true then .ok (.value (.agg (w.cellsAt n off 2))) w else loadS0 Tryz.prog 24 (.pointer (some ⟨n, off, none⟩)) w := by
  split
  · rename_i h; simp only [loadS, Sem.run_bind, run_loadAt_struct w un_Addr sz_Addr n off h, Result.andThen_ok]; rfl
  · rfl
@[go_sem ↓] theorem exec_store_Addr (ev : Operand → Value) (dst : Option Tmp) (ty : TypeId) (pos : String) (af : Array Edge) (g : Option (Nat × Bool)) (x y : Operand) (w : World) : (execOp ev ⟨dst, .store 24 x y, ty, pos, af, g⟩).run Tryz.prog w = storeS Tryz.prog 24 (ev x) (ev y) w := rfl
@[go_sem] theorem store_Addr (w : World) (n off : Nat) (vs : Array Value) : storeS Tryz.prog 24 (.pointer (some ⟨n, off, none⟩)) (.agg vs) w = if (vs.size == 2 && allOne vs.toList && w.freeC n (off + 2)) = true then .ok .skip (w.putC n off vs) else storeS0 Tryz.prog 24 (.pointer (some ⟨n, off, none⟩)) (.agg vs) w := by
  split
  · rename_i h; simp only [Bool.and_eq_true, beq_iff_eq] at h; simp only [storeS, Sem.run_bind, run_storeAt_struct' w sz_Addr n off vs h.1.1 h.1.2 h.2, Result.andThen_ok]; rfl
  · rfl
theorem sz_Value : (Tryz.prog.info? 40).map (·.size) = some 5 := by kernel_rfl
theorem un_Value : Tryz.prog.underlying 40 = some (.struct (Tryz.prog.fieldsOf 40)) := by kernel_rfl
@[go_sem ↓] theorem exec_load_Value (ev : Operand → Value) (dst : Option Tmp) (ty : TypeId) (pos : String) (af : Array Edge) (g : Option (Nat × Bool)) (x : Operand) (w : World) : (execOp ev ⟨dst, .load 40 x, ty, pos, af, g⟩).run Tryz.prog w = loadS Tryz.prog 40 (ev x) w := rfl
@[go_sem] theorem load_Value (w : World) (n off : Nat) : loadS Tryz.prog 40 (.pointer (some ⟨n, off, none⟩)) w = if w.hasC n (off + 5) = true then .ok (.value (.agg (w.cellsAt n off 5))) w else loadS0 Tryz.prog 40 (.pointer (some ⟨n, off, none⟩)) w := by
  split
  · rename_i h; simp only [loadS, Sem.run_bind, run_loadAt_struct w un_Value sz_Value n off h, Result.andThen_ok]; rfl
  · rfl
@[go_sem ↓] theorem exec_store_Value (ev : Operand → Value) (dst : Option Tmp) (ty : TypeId) (pos : String) (af : Array Edge) (g : Option (Nat × Bool)) (x y : Operand) (w : World) : (execOp ev ⟨dst, .store 40 x y, ty, pos, af, g⟩).run Tryz.prog w = storeS Tryz.prog 40 (ev x) (ev y) w := rfl
@[go_sem] theorem store_Value (w : World) (n off : Nat) (vs : Array Value) : storeS Tryz.prog 40 (.pointer (some ⟨n, off, none⟩)) (.agg vs) w = if (vs.size == 5 && allOne vs.toList && w.freeC n (off + 5)) = true then .ok .skip (w.putC n off vs) else storeS0 Tryz.prog 40 (.pointer (some ⟨n, off, none⟩)) (.agg vs) w := by
  split
  · rename_i h; simp only [Bool.and_eq_true, beq_iff_eq] at h; simp only [storeS, Sem.run_bind, run_storeAt_struct' w sz_Value n off vs h.1.1 h.1.2 h.2, Result.andThen_ok]; rfl
  · rfl
theorem sz_Ref : (Tryz.prog.info? 46).map (·.size) = some 4 := by kernel_rfl
theorem un_Ref : Tryz.prog.underlying 46 = some (.struct (Tryz.prog.fieldsOf 46)) := by kernel_rfl
@[go_sem ↓] theorem exec_load_Ref (ev : Operand → Value) (dst : Option Tmp) (ty : TypeId) (pos : String) (af : Array Edge) (g : Option (Nat × Bool)) (x : Operand) (w : World) : (execOp ev ⟨dst, .load 46 x, ty, pos, af, g⟩).run Tryz.prog w = loadS Tryz.prog 46 (ev x) w := rfl
@[go_sem] theorem load_Ref (w : World) (n off : Nat) : loadS Tryz.prog 46 (.pointer (some ⟨n, off, none⟩)) w = if w.hasC n (off + 4) = true then .ok (.value (.agg (w.cellsAt n off 4))) w else loadS0 Tryz.prog 46 (.pointer (some ⟨n, off, none⟩)) w := by
  split
  · rename_i h; simp only [loadS, Sem.run_bind, run_loadAt_struct w un_Ref sz_Ref n off h, Result.andThen_ok]; rfl
  · rfl
@[go_sem ↓] theorem exec_store_Ref (ev : Operand → Value) (dst : Option Tmp) (ty : TypeId) (pos : String) (af : Array Edge) (g : Option (Nat × Bool)) (x y : Operand) (w : World) : (execOp ev ⟨dst, .store 46 x y, ty, pos, af, g⟩).run Tryz.prog w = storeS Tryz.prog 46 (ev x) (ev y) w := rfl
@[go_sem] theorem store_Ref (w : World) (n off : Nat) (vs : Array Value) : storeS Tryz.prog 46 (.pointer (some ⟨n, off, none⟩)) (.agg vs) w = if (vs.size == 4 && allOne vs.toList && w.freeC n (off + 4)) = true then .ok .skip (w.putC n off vs) else storeS0 Tryz.prog 46 (.pointer (some ⟨n, off, none⟩)) (.agg vs) w := by
  split
  · rename_i h; simp only [Bool.and_eq_true, beq_iff_eq] at h; simp only [storeS, Sem.run_bind, run_storeAt_struct' w sz_Ref n off vs h.1.1 h.1.2 h.2, Result.andThen_ok]; rfl
  · rfl
theorem sz_Node : (Tryz.prog.info? 49).map (·.size) = some 15 := by kernel_rfl
theorem un_Node : Tryz.prog.underlying 49 = some (.struct (Tryz.prog.fieldsOf 49)) := by kernel_rfl
@[go_sem ↓] theorem exec_load_Node (ev : Operand → Value) (dst : Option Tmp) (ty : TypeId) (pos : String) (af : Array Edge) (g : Option (Nat × Bool)) (x : Operand) (w : World) : (execOp ev ⟨dst, .load 49 x, ty, pos, af, g⟩).run Tryz.prog w = loadS Tryz.prog 49 (ev x) w := rfl
@[go_sem] theorem load_Node (w : World) (n off : Nat) : loadS Tryz.prog 49 (.pointer (some ⟨n, off, none⟩)) w = if w.hasC n (off + 15) = true then .ok (.value (.agg (w.cellsAt n off 15))) w else loadS0 Tryz.prog 49 (.pointer (some ⟨n, off, none⟩)) w := by
  split
  · rename_i h; simp only [loadS, Sem.run_bind, run_loadAt_struct w un_Node sz_Node n off h, Result.andThen_ok]; rfl
  · rfl
@[go_sem ↓] theorem exec_store_Node (ev : Operand → Value) (dst : Option Tmp) (ty : TypeId) (pos : String) (af : Array Edge) (g : Option (Nat × Bool)) (x y : Operand) (w : World) : (execOp ev ⟨dst, .store 49 x y, ty, pos, af, g⟩).run Tryz.prog w = storeS Tryz.prog 49 (ev x) (ev y) w := rfl
@[go_sem] theorem store_Node (w : World) (n off : Nat) (vs : Array Value) : storeS Tryz.prog 49 (.pointer (some ⟨n, off, none⟩)) (.agg vs) w = if (vs.size == 15 && allOne vs.toList && w.freeC n (off + 15)) = true then .ok .skip (w.putC n off vs) else storeS0 Tryz.prog 49 (.pointer (some ⟨n, off, none⟩)) (.agg vs) w := by
  split
  · rename_i h; simp only [Bool.and_eq_true, beq_iff_eq] at h; simp only [storeS, Sem.run_bind, run_storeAt_struct' w sz_Node n off vs h.1.1 h.1.2 h.2, Result.andThen_ok]; rfl
  · rfl
theorem sz_Content : (Tryz.prog.info? 51).map (·.size) = some 21 := by kernel_rfl
theorem un_Content : Tryz.prog.underlying 51 = some (.struct (Tryz.prog.fieldsOf 51)) := by kernel_rfl
@[go_sem ↓] theorem exec_load_Content (ev : Operand → Value) (dst : Option Tmp) (ty : TypeId) (pos : String) (af : Array Edge) (g : Option (Nat × Bool)) (x : Operand) (w : World) : (execOp ev ⟨dst, .load 51 x, ty, pos, af, g⟩).run Tryz.prog w = loadS Tryz.prog 51 (ev x) w := rfl
@[go_sem] theorem load_Content (w : World) (n off : Nat) : loadS Tryz.prog 51 (.pointer (some ⟨n, off, none⟩)) w = if w.hasC n (off + 21) = true then .ok (.value (.agg (w.cellsAt n off 21))) w else loadS0 Tryz.prog 51 (.pointer (some ⟨n, off, none⟩)) w := by
  split
  · rename_i h; simp only [loadS, Sem.run_bind, run_loadAt_struct w un_Content sz_Content n off h, Result.andThen_ok]; rfl
  · rfl
@[go_sem ↓] theorem exec_store_Content (ev : Operand → Value) (dst : Option Tmp) (ty : TypeId) (pos : String) (af : Array Edge) (g : Option (Nat × Bool)) (x y : Operand) (w : World) : (execOp ev ⟨dst, .store 51 x y, ty, pos, af, g⟩).run Tryz.prog w = storeS Tryz.prog 51 (ev x) (ev y) w := rfl
@[go_sem] theorem store_Content (w : World) (n off : Nat) (vs : Array Value) : storeS Tryz.prog 51 (.pointer (some ⟨n, off, none⟩)) (.agg vs) w = if (vs.size == 21 && allOne vs.toList && w.freeC n (off + 21)) = true then .ok .skip (w.putC n off vs) else storeS0 Tryz.prog 51 (.pointer (some ⟨n, off, none⟩)) (.agg vs) w := by
  split
  · rename_i h; simp only [Bool.and_eq_true, beq_iff_eq] at h; simp only [storeS, Sem.run_bind, run_storeAt_struct' w sz_Content n off vs h.1.1 h.1.2 h.2, Result.andThen_ok]; rfl
  · rfl
theorem sz_Put : (Tryz.prog.info? 53).map (·.size) = some 23 := by kernel_rfl
theorem un_Put : Tryz.prog.underlying 53 = some (.struct (Tryz.prog.fieldsOf 53)) := by kernel_rfl
@[go_sem ↓] theorem exec_load_Put (ev : Operand → Value) (dst : Option Tmp) (ty : TypeId) (pos : String) (af : Array Edge) (g : Option (Nat × Bool)) (x : Operand) (w : World) : (execOp ev ⟨dst, .load 53 x, ty, pos, af, g⟩).run Tryz.prog w = loadS Tryz.prog 53 (ev x) w := rfl
@[go_sem] theorem load_Put (w : World) (n off : Nat) : loadS Tryz.prog 53 (.pointer (some ⟨n, off, none⟩)) w = if w.hasC n (off + 23) = true then .ok (.value (.agg (w.cellsAt n off 23))) w else loadS0 Tryz.prog 53 (.pointer (some ⟨n, off, none⟩)) w := by
  split
  · rename_i h; simp only [loadS, Sem.run_bind, run_loadAt_struct w un_Put sz_Put n off h, Result.andThen_ok]; rfl
  · rfl
@[go_sem ↓] theorem exec_store_Put (ev : Operand → Value) (dst : Option Tmp) (ty : TypeId) (pos : String) (af : Array Edge) (g : Option (Nat × Bool)) (x y : Operand) (w : World) : (execOp ev ⟨dst, .store 53 x y, ty, pos, af, g⟩).run Tryz.prog w = storeS Tryz.prog 53 (ev x) (ev y) w := rfl
@[go_sem] theorem store_Put (w : World) (n off : Nat) (vs : Array Value) : storeS Tryz.prog 53 (.pointer (some ⟨n, off, none⟩)) (.agg vs) w = if (vs.size == 23 && allOne vs.toList && w.freeC n (off + 23)) = true then .ok .skip (w.putC n off vs) else storeS0 Tryz.prog 53 (.pointer (some ⟨n, off, none⟩)) (.agg vs) w := by
  split
  · rename_i h; simp only [Bool.and_eq_true, beq_iff_eq] at h; simp only [storeS, Sem.run_bind, run_storeAt_struct' w sz_Put n off vs h.1.1 h.1.2 h.2, Result.andThen_ok]; rfl
  · rfl
/-- A result that is a struct in a cell. -/
theorem bodyPost_struct {P : Program} {fn : Func} {R : Ending → World → Prop} {a : Act} {w : World} {t k n off : Nat} {T : TypeId} {fs : Array Field} {v : Array Value} (hr : fn.results = #[.cell t T])
    (hu : P.underlying T = some (.struct fs)) (hk : (P.info? T).map (·.size) = some k) (ha : a.tmps.getD t undef = .pointer (some ⟨n, off, none⟩)) (hd : a.defers = [])
    (hc : w.hasC n (off + k) = true) (hv : w.cellsAt n off k = v) (hR : R (.returned (.agg v)) w) : bodyPost P fn R .ret a w := by
  refine bodyPost_ret (v := .agg v) ?_ hd hR
  obtain ⟨h1, h2⟩ := rangeAt_cellsAt w n off k hc
  have hl := run_loadVar_mid (P := P) w n off T (w.cellsAt n off k).toList _ h1 hu rfl (by rw [hk, Array.length_toList, h2])
  subst hv
  have ha' : a.tmps[t]?.getD undef = .pointer (some ⟨n, off, none⟩) := by simpa using ha
  have hl' : (loadVar T ⟨n, off, none⟩).run P w = .ok (.agg (w.cellsAt n off k)) w := by simpa using hl
  simp [results, hr, ha', asAddr, hl', -bind_pure_comp]
end Go.Proofs.YtencimimccoofaaGreatDoor
