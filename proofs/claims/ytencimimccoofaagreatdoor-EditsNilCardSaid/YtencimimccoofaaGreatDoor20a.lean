/- What a sheet is in a world; what stays of it. -/
import Derived.Test.YtencimimccoofaaGreatDoor19
namespace Go.Proofs.YtencimimccoofaaGreatDoor
set_option linter.all false
open Go.RowKit Go.Shelf

/-- a sheet in a world: its contents, its links (none), what it shows -/
structure SheetAt (w : World) (S G MG L ML SH : Nat) (es : Array MapEntry) (ck : Nat) (sh : Array MapEntry) (cks ckl : Nat) (v3 v4 : Value) : Prop where
  hs0 : w.cell? ⟨S, 0, none⟩ = some (.pointer (some ⟨G, 0, none⟩))
  hs1 : w.cell? ⟨S, 1, none⟩ = some (.pointer (some ⟨L, 0, none⟩))
  hs2 : w.cell? ⟨S, 2, none⟩ = some (.map (some SH))
  hs3 : w.cell? ⟨S, 3, none⟩ = some v3
  hs4 : w.cell? ⟨S, 4, none⟩ = some v4
  hz3 : w.frozen? ⟨S, 3, none⟩ = false
  hz4 : w.frozen? ⟨S, 4, none⟩ = false
  hg : w.cell? ⟨G, 0, none⟩ = some (.map (some MG))
  hm : w.mapAt MG = some (es, ck)
  hl : w.cell? ⟨L, 0, none⟩ = some (.map (some ML))
  hlm : w.mapAt ML = some (#[], ckl)
  hsm : w.mapAt SH = some (sh, cks)
  oS : w.oldB S = true
  oG : w.oldB G = true
  oMG : w.oldB MG = true
  oL : w.oldB L = true
  oML : w.oldB ML = true
  oSH : w.oldB SH = true

section
variable {w W : World} {n : Nat}
theorem old_below {B : Nat} (hB : Below B w W) (h : w.oldB n = true) : W.oldB n = true := oldB_of (Nat.lt_of_lt_of_le (oldB_lt h) hB.size)
theorem cell_below (hB : Below w.heap.size w W) (h : w.oldB n = true) (i : Nat) : W.cell? ⟨n, i, none⟩ = w.cell? ⟨n, i, none⟩ := hB.cell (p := ⟨n, i, none⟩) (oldB_lt h)
theorem frozen_below (hB : Below w.heap.size w W) (h : w.oldB n = true) (i : Nat) : W.frozen? ⟨n, i, none⟩ = w.frozen? ⟨n, i, none⟩ := hB.frozen (p := ⟨n, i, none⟩) (oldB_lt h)
theorem mapAt_below (hB : Below w.heap.size w W) (h : w.oldB n = true) : W.mapAt n = w.mapAt n := by unfold World.mapAt; rw [hB.block n (oldB_lt h)]
theorem hasC_below (hB : Below w.heap.size w W) (h : w.oldB n = true) (k : Nat) : W.hasC n k = w.hasC n k := by unfold World.hasC; rw [hB.block n (oldB_lt h)]
theorem cellsAt_below (hB : Below w.heap.size w W) (h : w.oldB n = true) (i k : Nat) : W.cellsAt n i k = w.cellsAt n i k := by unfold World.cellsAt; rw [hB.block n (oldB_lt h)]
end

theorem SheetAt.below {w W : World} {S G MG L ML SH : Nat} {es : Array MapEntry} {ck : Nat} {sh : Array MapEntry} {cks ckl : Nat} {v3 v4 : Value} (h : SheetAt w S G MG L ML SH es ck sh cks ckl v3 v4) (hB : Below w.heap.size w W) :
    SheetAt W S G MG L ML SH es ck sh cks ckl v3 v4 := by
  obtain ⟨hs0, hs1, hs2, hs3, hs4, hz3, hz4, hg, hm, hl, hlm, hsm, oS, oG, oMG, oL, oML, oSH⟩ := h
  exact ⟨(cell_below hB oS _).trans hs0, (cell_below hB oS _).trans hs1, (cell_below hB oS _).trans hs2, (cell_below hB oS _).trans hs3, (cell_below hB oS _).trans hs4, (frozen_below hB oS _).trans hz3, (frozen_below hB oS _).trans hz4,
    (cell_below hB oG _).trans hg, (mapAt_below hB oMG).trans hm, (cell_below hB oL _).trans hl, (mapAt_below hB oML).trans hlm, (mapAt_below hB oSH).trans hsm, old_below hB oS, old_below hB oG, old_below hB oMG, old_below hB oL, old_below hB oML, old_below hB oSH⟩

theorem sheetW_at (w : World) : SheetAt (sheetW w) (w.heap.size + 5) (w.heap.size + 1) w.heap.size (w.heap.size + 3) (w.heap.size + 2) (w.heap.size + 4) #[] 0 #[] 0 0 (.slice none 0 0) (.slice none 0 0) ∧ Below w.heap.size w (sheetW w) := by
  have hlt : ∀ i, i < 6 → (sheetW w).oldB (w.heap.size + i) = true := fun i hi => oldB_of (by simp; omega)
  refine ⟨⟨?_, ?_, ?_, ?_, ?_, ?_, ?_, ?_, ?_, ?_, ?_, ?_, hlt 5 (by omega), hlt 1 (by omega), hlt 0 (by omega), hlt 3 (by omega), hlt 2 (by omega), hlt 4 (by omega)⟩, ?_⟩
  all_goals unfold sheetW linksW gridW
  iterate 12 (focus (go_simp; done))
  exact (by repeat (first | (with_reducible exact Below.refl _ _) | (with_reducible refine Below.drew ?_) | (with_reducible refine below_drewN ?_ _) | (with_reducible refine below_ext _ _ _ ?_ ?_) | (with_reducible refine Below.alloc ?_ ?_ _) | (with_reducible refine Below.setCell ?_ ?_ _) | (with_reducible refine below_putMap ?_ ?_ _ _) | assumption | (focus (simp; done)) | (focus (simp; omega)) | (focus omega) | refine below_tr (by assumption) (by simp <;> omega) ?_))
end Go.Proofs.YtencimimccoofaaGreatDoor
