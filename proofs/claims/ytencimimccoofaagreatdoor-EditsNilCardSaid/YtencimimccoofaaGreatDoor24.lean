/- A book in a world; what stays of it. -/
import Derived.Test.YtencimimccoofaaGreatDoor17
import Derived.Test.YtencimimccoofaaGreatDoor20
namespace Go.Proofs.YtencimimccoofaaGreatDoor
set_option linter.all false
open Go.RowKit Go.Shelf

theorem below_putMap {B : Nat} {w W : World} (h : Below B w W) {r : Nat} (hr : B ≤ r) (es : Array MapEntry) (ck : Nat) : Below B w (W.putMap r es ck) :=
  h.trans ⟨rfl, rfl, rfl, by simp, fun k hk => by rw [heap_putMap, if_neg (by omega)]⟩

structure GridAt (w : World) (g m : Nat) (es : Array MapEntry) (ck : Nat) : Prop where
  hg : w.cell? ⟨g, 0, none⟩ = some (.map (some m))
  hm : w.mapAt m = some (es, ck)
  og : w.oldB g = true
  om : w.oldB m = true
theorem GridAt.below {w W : World} {g m : Nat} {es : Array MapEntry} {ck : Nat} (h : GridAt w g m es ck) (hB : Below w.heap.size w W) : GridAt W g m es ck :=
  ⟨(cell_below hB h.og _).trans h.hg, (mapAt_below hB h.om).trans h.hm, old_below hB h.og, old_below hB h.om⟩

structure BookAt (w : World) (K : Nat) (v0 v1 v2 v3 : Value) : Prop where
  hk0 : w.cell? ⟨K, 0, none⟩ = some v0
  hk1 : w.cell? ⟨K, 1, none⟩ = some v1
  hk2 : w.cell? ⟨K, 2, none⟩ = some v2
  hk3 : w.cell? ⟨K, 3, none⟩ = some v3
  hy0 : w.frozen? ⟨K, 0, none⟩ = false
  hy1 : w.frozen? ⟨K, 1, none⟩ = false
  hy2 : w.frozen? ⟨K, 2, none⟩ = false
  hy3 : w.frozen? ⟨K, 3, none⟩ = false
  oK : w.oldB K = true
theorem BookAt.below {w W : World} {K : Nat} {v0 v1 v2 v3 : Value} (h : BookAt w K v0 v1 v2 v3) (hB : Below w.heap.size w W) : BookAt W K v0 v1 v2 v3 :=
  ⟨(cell_below hB h.oK _).trans h.hk0, (cell_below hB h.oK _).trans h.hk1, (cell_below hB h.oK _).trans h.hk2, (cell_below hB h.oK _).trans h.hk3,
    (frozen_below hB h.oK _).trans h.hy0, (frozen_below hB h.oK _).trans h.hy1, (frozen_below hB h.oK _).trans h.hy2, (frozen_below hB h.oK _).trans h.hy3, old_below hB h.oK⟩

/-- a new book -/
theorem bookW_at (w : World) : BookAt (bookW w) (w.heap.size + 8) (.pointer (some ⟨w.heap.size + 1, 0, none⟩)) (.slice none 0 0) (.slice none 0 0) (.pointer (some ⟨w.heap.size + 7, 0, none⟩)) ∧
    GridAt (bookW w) (w.heap.size + 1) w.heap.size #[] 0 ∧
    SheetAt (bookW w) (w.heap.size + 7) (w.heap.size + 3) (w.heap.size + 2) (w.heap.size + 5) (w.heap.size + 4) (w.heap.size + 6) #[] 0 #[] 0 0 (.slice none 0 0) (.slice none 0 0) ∧ Below w.heap.size w (bookW w) ∧ (bookW w).heap.size = w.heap.size + 9 := by
  have hlt : ∀ i, i < 9 → (bookW w).oldB (w.heap.size + i) = true := fun i hi => oldB_of (by simp; omega)
  obtain ⟨hSA, hB⟩ := sheetW_at (gridW w)
  simp only [size_gridW, Nat.add_assoc, Nat.reduceAdd] at hSA hB
  have hB2 : Below (sheetW (gridW w)).heap.size (sheetW (gridW w)) (bookW w) := by unfold bookW; exact (by repeat (first | (with_reducible exact Below.refl _ _) | (with_reducible refine Below.drew ?_) | (with_reducible refine below_drewN ?_ _) | (with_reducible refine below_ext _ _ _ ?_ ?_) | (with_reducible refine Below.alloc ?_ ?_ _) | (with_reducible refine Below.setCell ?_ ?_ _) | (with_reducible refine below_putMap ?_ ?_ _ _) | assumption | (focus (simp; done)) | (focus (simp; omega)) | (focus omega) | refine below_tr (by assumption) (by simp <;> omega) ?_))
  refine ⟨⟨?_, ?_, ?_, ?_, ?_, ?_, ?_, ?_, hlt 8 (by omega)⟩, ⟨?_, ?_, hlt 1 (by omega), hlt 0 (by omega)⟩, hSA.below hB2, ?_, by simp⟩
  iterate 8 (focus (unfold bookW sheetW linksW gridW; go_simp; done))
  iterate 2 (focus (unfold bookW sheetW linksW gridW; go_simp; done))
  unfold bookW sheetW linksW gridW
  exact (by repeat (first | (with_reducible exact Below.refl _ _) | (with_reducible refine Below.drew ?_) | (with_reducible refine below_drewN ?_ _) | (with_reducible refine below_ext _ _ _ ?_ ?_) | (with_reducible refine Below.alloc ?_ ?_ _) | (with_reducible refine Below.setCell ?_ ?_ _) | (with_reducible refine below_putMap ?_ ?_ _ _) | assumption | (focus (simp; done)) | (focus (simp; omega)) | (focus omega) | refine below_tr (by assumption) (by simp <;> omega) ?_))

theorem live_Grid' (S G M : Nat) {es : Array MapEntry} {ck : Nat} (w : World) (hs0 : w.cell? ⟨S, 0, none⟩ = some (.pointer (some ⟨G, 0, none⟩))) (hg : w.cell? ⟨G, 0, none⟩ = some (.map (some M))) (hm : w.mapAt M = some (es, ck)) :
    Calls Tryz.prog 22 #[.pointer (some ⟨S, 0, none⟩)] w
      fun e w' => ∃ g m, e = .returned (.pointer (some ⟨g, 0, none⟩)) ∧ GridAt w' g m es ck ∧ Below w.heap.size w w' ∧ w.heap.size ≤ g ∧ w.heap.size ≤ m := by
  refine (live_Grid S G M w hs0 hg hm).mono ?_
  rintro e w' ⟨rfl, rfl⟩
  refine ⟨_, w.heap.size, rfl, ⟨?_, ?_, ?_, ?_⟩, ?_, by omega, by omega⟩
  all_goals unfold cloneW
  · go_simp
  · go_simp
  · go_simp
  · go_simp
  · exact (by repeat (first | (with_reducible exact Below.refl _ _) | (with_reducible refine Below.drew ?_) | (with_reducible refine below_drewN ?_ _) | (with_reducible refine below_ext _ _ _ ?_ ?_) | (with_reducible refine Below.alloc ?_ ?_ _) | (with_reducible refine Below.setCell ?_ ?_ _) | (with_reducible refine below_putMap ?_ ?_ _ _) | assumption | (focus (simp; done)) | (focus (simp; omega)) | (focus omega) | refine below_tr (by assumption) (by simp <;> omega) ?_))

theorem Do1_idle (pe pw pb : Nat) (u : FrameMode) (w : World) (he : w.cell? ⟨pe, 0, none⟩ = some (.int .i64 0)) :
    CallsD Tryz.prog 19 #[.pointer (some ⟨pe, 0, none⟩), .pointer (some ⟨pw, 0, none⟩), .pointer (some ⟨pb, 0, none⟩)] u w
      fun e u' w' => u' = u ∧ (e = .returned (.tuple #[]) ∧ w' = w) := by
  go_enter_d Tryz.func19, Tryz.ntmps19
  go_wp2
  go_end0
  exact ⟨rfl, rfl⟩
end Go.Proofs.YtencimimccoofaaGreatDoor
