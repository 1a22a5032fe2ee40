/- Appends: what one comes to, as an equation: the new row is the old elements, the new ones, and some padding. -/
import Derived.Test.YtencimimccoofaaGreatDoor10
import Derived.Laws.AppendOwn
import Derived.ArgAppend
namespace Go.Proofs.YtencimimccoofaaGreatDoor
open Go.RowKit

/-- a row's cells, and what pads it -/
def padded (cs zs : Array Value) : Array Value := cs ++ zs
@[go_sem] theorem size_padded (cs zs : Array Value) : (padded cs zs).size = cs.size + zs.size := by simp [padded]
section
variable (w : World) (cs zs : Array Value) (t : TypeId)
@[go_sem] theorem hasC_padded (n m : Nat) (hn : n = w.heap.size) (hm : m ≤ cs.size) : (w.alloc (.cells (padded cs zs) t)).hasC n m = true := by
  subst hn; unfold World.hasC; rw [heap_alloc_new]; simp [size_padded]; omega
@[go_sem] theorem freeC_padded (n m : Nat) (hn : n = w.heap.size) (hm : m ≤ cs.size) : (w.alloc (.cells (padded cs zs) t)).freeC n m = true := by
  subst hn; unfold World.freeC; rw [heap_alloc_new]; simp [size_padded]; omega
@[go_sem] theorem cellsAt_padded (n off k : Nat) (hn : n = w.heap.size) (hm : off + k ≤ cs.size) : (w.alloc (.cells (padded cs zs) t)).cellsAt n off k = cs.extract off (off + k) := by
  subst hn; unfold World.cellsAt; rw [heap_alloc_new]
  simp only [padded]
  rw [Array.extract_append, show off + k - cs.size = 0 by omega]; simp
@[go_sem] theorem cell_padded (n off : Nat) (hn : n = w.heap.size) (hm : off < cs.size) : (w.alloc (.cells (padded cs zs) t)).cell? ⟨n, off, none⟩ = some cs[off] := by
  subst hn; unfold World.cell?; simp only []; rw [heap_alloc_new]
  simp [padded, Array.getElem?_append, hm]
end

@[go_sem] theorem extract_padded (cs zs : Array Value) (a b : Nat) (h : b ≤ cs.size) : (padded cs zs).extract a b = cs.extract a b := by
  simp only [padded]
  rw [Array.extract_append, show b - cs.size = 0 by omega]; simp
theorem cells_add (n off j : Nat) : (⟨n, off, none⟩ : Addr).add j = ⟨n, off + j, none⟩ := by
  unfold Addr.add; split
  · subst_vars; rfl
  · rfl

/-- an append, held back till its operands are reckoned -/
noncomputable def appS (ats : Array TypeId) (ty : TypeId) (args : Array Value) (W : World) : Result Value := (Builtin.append_ ats ty args).run Tryz.prog W
@[go_sem ↓] theorem hold_append (ats : Array TypeId) (ty : TypeId) (args : Array Value) (W : World) : (Builtin.append_ ats ty args).run Tryz.prog W = appS ats ty args W := rfl
@[go_sem ↓] theorem exec_append (ev : Operand → Value) (dst : Option Tmp) (ty : TypeId) (pos : String) (af : Array Edge) (g : Option (Nat × Bool)) (x y : Operand) (ats : Array TypeId) (w : World) : (execOp ev ⟨dst, .call { callee := .builtin .append, args := #[x, y], argTypes := ats }, ty, pos, af, g⟩).run Tryz.prog w = (appS ats ty #[ev x, ev y] w).andThen fun v w' => .ok (.value v) w' := by
  unfold execOp appS
  simp only [resolve, invoke, Sem.run_bind, Sem.run_pure, Result.andThen_ok, List.map_toArray, List.map_cons, List.map_nil, builtin]
/-- onto none -/
theorem append_nil_of {t e : TypeId} {k bytes : Nat} {z : Value} (ht : Tryz.prog.underlying t = some (.slice e)) (hi : (Tryz.prog.info? e).map (fun i => (i.size, i.bytes, i.zero)) = some (k, bytes, some z))
    (ty : TypeId) (W : World) (b off c n : Nat) (h0 : 0 < n) (h63 : (n : Int) ≤ 9223372036854775807) (h48 : n * bytes ≤ 281474976710656) (h : W.hasC b (off + n * k) = true) :
    (Builtin.append_ #[t, t] ty #[.slice none 0 0, .slice (some ⟨b, off, none⟩) n c]).run Tryz.prog W =
      .ok (.slice (some ⟨W.heap.size, 0, none⟩) n (grownCap W n 0 e)) (W.drew.alloc (.cells (padded (W.cellsAt b off (n * k)) (Builtin.zeroCells z.cells (grownCap W n 0 e - n))) e)) := by
  cases hh : Tryz.prog.info? e with
  | none => rw [hh] at hi; simp at hi
  | some i =>
    rw [hh] at hi
    simp only [Option.map_some, Option.some.injEq, Prod.mk.injEq] at hi
    obtain ⟨h1, h2, h3⟩ := hi
    obtain ⟨r1, r2⟩ := rangeAt_cellsAt W b off (n * k) h
    rw [run_append_nil (P := Tryz.prog) W t ty e i z ht hh h3 ⟨b, off, none⟩ n c (W.cellsAt b off (n * k)).toList (by rw [Array.length_toList, r2, h1])
      (fun j v hv => by rw [cells_add]; exact r1 j v hv) h0 h63 (by rw [h2]; exact h48)]
    rfl

/-- onto a row that has no room -/
theorem append_grow_of {t e : TypeId} {k bytes : Nat} {z : Value} (ht : Tryz.prog.underlying t = some (.slice e)) (hi : (Tryz.prog.info? e).map (fun i => (i.size, i.bytes, i.zero)) = some (k, bytes, some z))
    (ty : TypeId) (W : World) (b0 off0 sLen sCap b off c n : Nat) (hg : sCap < sLen + n) (h63 : ((sLen + n : Nat) : Int) ≤ 9223372036854775807) (h48 : Builtin.nextslicecap (sLen + n) sCap * bytes ≤ 281474976710656)
    (h0 : W.hasC b0 (off0 + sLen * k) = true) (h : W.hasC b (off + n * k) = true) :
    (Builtin.append_ #[t, t] ty #[.slice (some ⟨b0, off0, none⟩) sLen sCap, .slice (some ⟨b, off, none⟩) n c]).run Tryz.prog W =
      .ok (.slice (some ⟨W.heap.size, 0, none⟩) (sLen + n) (grownCap W (sLen + n) sCap e))
        (W.drew.alloc (.cells (padded (W.cellsAt b0 off0 (sLen * k) ++ W.cellsAt b off (n * k)) (Builtin.zeroCells z.cells (grownCap W (sLen + n) sCap e - (sLen + n)))) e)) := by
  cases hh : Tryz.prog.info? e with
  | none => rw [hh] at hi; simp at hi
  | some i =>
    rw [hh] at hi
    simp only [Option.map_some, Option.some.injEq, Prod.mk.injEq] at hi
    obtain ⟨h1, h2, h3⟩ := hi
    obtain ⟨r1, r2⟩ := rangeAt_cellsAt W b off (n * k) h
    obtain ⟨r3, r4⟩ := rangeAt_cellsAt W b0 off0 (sLen * k) h0
    rw [run_append_grow (P := Tryz.prog) W t ty e i z ht hh h3 ⟨b0, off0, none⟩ sLen sCap (W.cellsAt b0 off0 (sLen * k)).toList (by rw [Array.length_toList, r4, h1]) (fun j v hv => by rw [cells_add]; exact r3 j v hv)
      ⟨b, off, none⟩ n c (W.cellsAt b off (n * k)).toList (by rw [Array.length_toList, r2, h1])
      (fun j v hv => by rw [cells_add]; exact r1 j v hv) hg h63 (by rw [h2]; exact h48)]
    rfl

def zContent : Array Value := #[.int .i64 0, .int .i64 0, .float .f64 0, .string ⟨#[]⟩, .bool false, .int .i64 0, .int .i64 0, .int .i64 0, .float .f64 0, .string ⟨#[]⟩, .bool false, .int .i64 0, .int .i64 0, .int .i64 0, .bool false, .bool false, .int .i64 0, .int .i64 0, .bool false, .bool false, .slice none 0 0]
theorem in_Content : (Tryz.prog.info? 51).map (fun i => (i.size, i.bytes, i.zero)) = some (21, 184, some (.agg zContent)) := by kernel_rfl
theorem in_Grid : (Tryz.prog.info? 31).map (fun i => (i.size, i.bytes, i.zero)) = some (1, 8, some (.pointer none)) := by kernel_rfl
theorem un_SContent : Tryz.prog.underlying 72 = some (.slice 51) := by kernel_rfl
theorem un_SGrid : Tryz.prog.underlying 56 = some (.slice 31) := by kernel_rfl
theorem in_Addr : (Tryz.prog.info? 24).map (fun i => (i.size, i.bytes, i.zero)) = some (2, 16, some (.agg #[.int .i64 0, .int .i64 0])) := by kernel_rfl
theorem un_SAddr : Tryz.prog.underlying 71 = some (.slice 24) := by kernel_rfl
def zAddr : Array Value := #[.int .i64 0, .int .i64 0]
@[go_sem] theorem size_zAddr : zAddr.size = 2 := by have h : zAddr = #[.int .i64 0, .int .i64 0] := rfl; rw [h]; rfl
theorem append_nil_Addr (ty : TypeId) (W : World) (b c : Nat) (h : W.hasC b 2 = true) :
    (Builtin.append_ #[71, 71] ty #[.slice none 0 0, .slice (some ⟨b, 0, none⟩) 1 c]).run Tryz.prog W =
      .ok (.slice (some ⟨W.heap.size, 0, none⟩) 1 (grownCap W 1 0 24)) (W.drew.alloc (.cells (padded (W.cellsAt b 0 2) (Builtin.zeroCells zAddr (grownCap W 1 0 24 - 1))) 24)) :=
  append_nil_of un_SAddr in_Addr ty W b 0 c 1 (by omega) (by omega) (by omega) (by simpa using h)
theorem append_nil_Content (ty : TypeId) (W : World) (b c : Nat) (h : W.hasC b 21 = true) :
    (Builtin.append_ #[72, 72] ty #[.slice none 0 0, .slice (some ⟨b, 0, none⟩) 1 c]).run Tryz.prog W =
      .ok (.slice (some ⟨W.heap.size, 0, none⟩) 1 (grownCap W 1 0 51)) (W.drew.alloc (.cells (padded (W.cellsAt b 0 21) (Builtin.zeroCells zContent (grownCap W 1 0 51 - 1))) 51)) :=
  append_nil_of un_SContent in_Content ty W b 0 c 1 (by omega) (by omega) (by omega) (by simpa using h)
section
variable (w : World) (v0 v1 v2 v3 v4 v5 v6 v7 v8 v9 v10 v11 v12 v13 v14 v15 v16 v17 v18 v19 v20 : Value)
@[go_sem] theorem run_field_content0 : (Instr.field 51 (.agg #[v0, v1, v2, v3, v4, v5, v6, v7, v8, v9, v10, v11, v12, v13, v14, v15, v16, v17, v18, v19, v20]) 0).run Tryz.prog w = .ok v0 w := by kernel_rfl
@[go_sem] theorem run_field_content1 : (Instr.field 51 (.agg #[v0, v1, v2, v3, v4, v5, v6, v7, v8, v9, v10, v11, v12, v13, v14, v15, v16, v17, v18, v19, v20]) 1).run Tryz.prog w = .ok (.agg #[v1, v2, v3, v4, v5]) w := by kernel_rfl
end

@[go_sem] theorem splice_padded (cs zs : Array Value) (vs : List Value) (h : vs.length = cs.size) : splice (padded cs zs) 0 vs = padded vs.toArray zs := by
  simp [splice, padded, h]
/-- zeros onto none -/
theorem append_zeros_Addr' (ty : TypeId) (W : World) :
    (Builtin.append_ #[71, 3] ty #[.slice none 0 0, .int .i64 1]).run Tryz.prog W =
      .ok (.slice (some ⟨W.heap.size, 0, none⟩) 1 (grownCap W 1 0 24)) (W.drew.alloc (.cells (padded zAddr (Builtin.zeroCells zAddr (grownCap W 1 0 24 - 1))) 24)) := by
  have hi := in_Addr
  have hu : Tryz.prog.underlying 3 = some (.int .i64) := by kernel_rfl
  cases hh : Tryz.prog.info? 24 with
  | none => rw [hh] at hi; simp at hi
  | some i =>
    rw [hh] at hi
    simp only [Option.map_some, Option.some.injEq, Prod.mk.injEq] at hi
    obtain ⟨h1, h2, h3⟩ := hi
    have hz : Builtin.zeroCells zAddr 1 = zAddr := by kernel_rfl
    have hmx : max (1 : Int) 0 = 1 := by decide
    have hc : (Value.agg #[.int .i64 0, .int .i64 0]).cells = zAddr := by kernel_rfl
    have hw : IntKind.i64.wrap 1 = 1 := by decide
    have hn : Builtin.nextslicecap 1 0 = 1 := by decide
    have ha : ∀ W : World, (asIntOf (.int .i64 1)).run Tryz.prog W = .ok (.i64, 1) W := fun _ => rfl
    simp [Builtin.append_, run_underlying un_SAddr, run_underlying hu, sizeOf, typeInfo, zeroValue, hh, h1, h2, h3, asInt, ha, hw, hn, Question.forced, newRow, grownCap, Builtin.firstCells, hz, hc, padded, Result.andThen, hmx]
theorem append_zeros_Addr (ty : TypeId) (W : World) :
    (Builtin.append_ #[71, 3] ty #[.slice none 0 0, .int .i64 1]).run Tryz.prog W =
      .ok (.slice (some ⟨W.heap.size, 0, none⟩) 1 (grownCap W 1 0 24)) (W.drew.alloc (.cells (padded zAddr (Builtin.zeroCells zAddr (grownCap W 1 0 24 - 1))) 24)) := append_zeros_Addr' ty W

/-- none onto a row -/
theorem append_none_Addr (ty : TypeId) (W : World) (a : Addr) (n c : Nat) (h : n ≤ c) :
    (Builtin.append_ #[71, 71] ty #[.slice (some a) n c, .slice none 0 0]).run Tryz.prog W = .ok (.slice (some a) n c) W := by
  have hi := in_Addr
  cases hh : Tryz.prog.info? 24 with
  | none => rw [hh] at hi; simp at hi
  | some i => simp [Builtin.append_, run_underlying un_SAddr, sizeOf, typeInfo, hh, Builtin.lenOf, Builtin.firstCells, h, storeCells]

/-- onto an empty row that has room -/
theorem append_room_of {t e : TypeId} {k bytes : Nat} {z : Value} (ht : Tryz.prog.underlying t = some (.slice e)) (hi : (Tryz.prog.info? e).map (fun i => (i.size, i.bytes, i.zero)) = some (k, bytes, some z))
    (ty : TypeId) (W : World) (b0 sCap b off c n : Nat) (hr : n ≤ sCap) (h0 : W.freeC b0 (0 + n * k) = true) (h : W.hasC b (off + n * k) = true) (h1 : (W.cellsAt b off (n * k)).all (·.oneCell') = true) :
    (Builtin.append_ #[t, t] ty #[.slice (some ⟨b0, 0, none⟩) 0 sCap, .slice (some ⟨b, off, none⟩) n c]).run Tryz.prog W =
      .ok (.slice (some ⟨b0, 0, none⟩) n sCap) (W.putC b0 0 (W.cellsAt b off (n * k))) := by
  cases hh : Tryz.prog.info? e with
  | none => rw [hh] at hi; simp at hi
  | some i =>
    rw [hh] at hi
    simp only [Option.map_some, Option.some.injEq, Prod.mk.injEq] at hi
    obtain ⟨h1', h2, h3⟩ := hi
    obtain ⟨r1, r2⟩ := rangeAt_cellsAt W b off (n * k) h
    obtain ⟨q1, q2⟩ := there_freeC W b0 0 (n * k) h0
    have hlen : (W.cellsAt b off (n * k)).toList.length = n * k := by rw [Array.length_toList, r2]
    have := run_append_room_cells (P := Tryz.prog) W t ty e i ht hh b0 0 0 sCap ⟨b, off, none⟩ n c (W.cellsAt b off (n * k)).toList (by rw [hlen, h1'])
      (fun j v hv => by rw [cells_add]; exact r1 j v hv) (fun u hu => by rw [Array.all_eq_true'] at h1; exact h1 u (by simpa using hu)) (by omega)
      (fun j hj => by simpa using (q1 j (by omega)).1) (fun j hj => by simpa using (q1 j (by omega)).2)
    rw [this]
    simp only [Nat.zero_mul, Nat.add_zero, Nat.zero_add]
    rw [putC_eq b0 _ W 0 (by rw [hlen]; exact q2)]
    rfl
theorem append_room_Addr (ty : TypeId) (W : World) (b0 sCap b c : Nat) (hr : 1 ≤ sCap) (h0 : W.freeC b0 2 = true) (h : W.hasC b 2 = true) (h1 : allOne (W.cellsAt b 0 2).toList = true) :
    (Builtin.append_ #[71, 71] ty #[.slice (some ⟨b0, 0, none⟩) 0 sCap, .slice (some ⟨b, 0, none⟩) 1 c]).run Tryz.prog W =
      .ok (.slice (some ⟨b0, 0, none⟩) 1 sCap) (W.putC b0 0 (W.cellsAt b 0 2)) :=
  append_room_of un_SAddr in_Addr ty W b0 sCap b 0 c 1 hr (by simpa using h0) (by simpa using h) (by rw [allOne_iff] at h1; simpa using h1)
@[go_sem] theorem putC_padded (w : World) (cs zs vs : Array Value) (t : TypeId) (n : Nat) (hn : n = w.heap.size) (hv : vs.size = cs.size) :
    (w.alloc (.cells (padded cs zs) t)).putC n 0 vs = w.alloc (.cells (padded vs zs) t) := by
  subst hn
  unfold World.putC World.alloc
  simp only
  congr 1
  apply Array.ext_getElem?
  intro j
  rw [Array.getElem?_modify]
  by_cases hj : w.heap.size = j
  · subst hj
    simp [overCells, splice, padded, hv]
  · rw [if_neg hj]
    rw [Array.getElem?_push, Array.getElem?_push]
    rw [if_neg (fun h => hj h.symm), if_neg (fun h => hj h.symm)]

section
variable (w : World)
@[go_sem] theorem cellsAt_setCell_other (b o : Nat) (v : Value) (n off k : Nat) (h : b ≠ n) : (w.setCell ⟨b, o, none⟩ v).cellsAt n off k = w.cellsAt n off k := by
  unfold World.cellsAt World.setCell
  simp only [Array.getElem?_modify, h, if_false]
theorem heap_setCell (a : Addr) (v : Value) (n : Nat) : (w.setCell a v).heap[n]? = if a.block = n then (w.heap[n]?).map (fun o => match o with
      | .cells c elem frozen => .cells (if a.spot.isSome then c else c.setIfInBounds a.off v) elem frozen
      | o => o) else w.heap[n]? := by simp [World.setCell, Array.getElem?_modify]; rfl
@[go_sem] theorem hasC_setCell (a : Addr) (v : Value) (n m : Nat) : (w.setCell a v).hasC n m = w.hasC n m := by
  unfold World.hasC
  rw [heap_setCell]
  by_cases hr : a.block = n
  · rw [if_pos hr]
    cases hh : w.heap[n]? with
    | none => rfl
    | some o =>
      cases o with
      | cells c t fz =>
        simp only [Option.map_some]
        cases a.spot <;> simp
      | _ => rfl
  · rw [if_neg hr]
@[go_sem] theorem freeC_setCell (a : Addr) (v : Value) (n m : Nat) : (w.setCell a v).freeC n m = w.freeC n m := by
  unfold World.freeC
  rw [heap_setCell]
  by_cases hr : a.block = n
  · rw [if_pos hr]
    cases hh : w.heap[n]? with
    | none => rfl
    | some o =>
      cases o with
      | cells c t fz =>
        obtain ⟨lo, hi⟩ := fz
        simp only [Option.map_some]
        cases a.spot <;> simp
      | _ => rfl
  · rw [if_neg hr]
@[go_sem] theorem setCell_setCell (b o : Nat) (v v' : Value) : (w.setCell ⟨b, o, none⟩ v).setCell ⟨b, o, none⟩ v' = w.setCell ⟨b, o, none⟩ v' := by
  have : ((w.setCell ⟨b, o, none⟩ v).setCell ⟨b, o, none⟩ v').heap = (w.setCell ⟨b, o, none⟩ v').heap := by
    apply Array.ext_getElem?
    intro j
    rw [heap_setCell, heap_setCell, heap_setCell]
    by_cases hr : b = j
    · simp only [hr, if_true]
      cases w.heap[j]? with
      | none => rfl
      | some o => cases o <;> simp
    · simp only [hr, if_false]
  have h2 : ∀ (a b : World), a.heap = b.heap → a.tape = b.tape → a.drawn = b.drawn → a.os = b.os → a.output = b.output → a = b := by
    intro a b h1 h2 h3 h4 h5; cases a; cases b; simp_all
  exact h2 _ _ this rfl rfl rfl rfl
end

@[go_sem] theorem appS_nil_Addr (ty : TypeId) (W : World) (b c : Nat) (h : W.hasC b 2 = true) :
    appS #[71, 71] ty #[.slice none 0 0, .slice (some ⟨b, 0, none⟩) 1 c] W =
      .ok (.slice (some ⟨W.heap.size, 0, none⟩) 1 (grownCap W 1 0 24)) (W.drew.alloc (.cells (padded (W.cellsAt b 0 2) (Builtin.zeroCells zAddr (grownCap W 1 0 24 - 1))) 24)) := append_nil_Addr ty W b c h
@[go_sem] theorem appS_nil_Content (ty : TypeId) (W : World) (b c : Nat) (h : W.hasC b 21 = true) :
    appS #[72, 72] ty #[.slice none 0 0, .slice (some ⟨b, 0, none⟩) 1 c] W =
      .ok (.slice (some ⟨W.heap.size, 0, none⟩) 1 (grownCap W 1 0 51)) (W.drew.alloc (.cells (padded (W.cellsAt b 0 21) (Builtin.zeroCells zContent (grownCap W 1 0 51 - 1))) 51)) := append_nil_Content ty W b c h
@[go_sem] theorem appS_zeros_Addr (ty : TypeId) (W : World) :
    appS #[71, 3] ty #[.slice none 0 0, .int .i64 1] W =
      .ok (.slice (some ⟨W.heap.size, 0, none⟩) 1 (grownCap W 1 0 24)) (W.drew.alloc (.cells (padded zAddr (Builtin.zeroCells zAddr (grownCap W 1 0 24 - 1))) 24)) := append_zeros_Addr ty W
@[go_sem] theorem appS_none_Addr (ty : TypeId) (W : World) (a : Addr) (n c : Nat) (h : n ≤ c) :
    appS #[71, 71] ty #[.slice (some a) n c, .slice none 0 0] W = .ok (.slice (some a) n c) W := append_none_Addr ty W a n c h
@[go_sem] theorem appS_room_Addr (ty : TypeId) (W : World) (b0 sCap b c : Nat) (hr : 1 ≤ sCap) (h0 : W.freeC b0 2 = true) (h : W.hasC b 2 = true) (h1 : allOne (W.cellsAt b 0 2).toList = true) :
    appS #[71, 71] ty #[.slice (some ⟨b0, 0, none⟩) 0 sCap, .slice (some ⟨b, 0, none⟩) 1 c] W =
      .ok (.slice (some ⟨b0, 0, none⟩) 1 sCap) (W.putC b0 0 (W.cellsAt b 0 2)) := append_room_Addr ty W b0 sCap b c hr h0 h h1
end Go.Proofs.YtencimimccoofaaGreatDoor
