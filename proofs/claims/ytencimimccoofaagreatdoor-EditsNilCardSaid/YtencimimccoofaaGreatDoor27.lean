/- A book goes back to its first contents. -/
import Derived.Test.YtencimimccoofaaGreatDoor22
import Derived.Test.YtencimimccoofaaGreatDoor24
namespace Go.Proofs.YtencimimccoofaaGreatDoor
set_option linter.all false
open Go.RowKit Go.Shelf

set_option maxHeartbeats 0 in
set_option maxRecDepth 20000 in
theorem book_anew (K G0 M0 : Nat) {ck0 : Nat} (v1 v2 v3 : Value) (w : World) (hK : BookAt w K (.pointer (some ⟨G0, 0, none⟩)) v1 v2 v3) (hG : GridAt w G0 M0 #[] ck0) :
    Calls Tryz.prog 26 #[.pointer (some ⟨K, 0, none⟩)] w
      fun e w' => e = .returned (.tuple #[]) ∧ ∃ S SH, BookAt w' K (.pointer (some ⟨G0, 0, none⟩)) v1 v2 (.pointer (some ⟨S, 0, none⟩)) ∧ w'.cell? ⟨S, 2, none⟩ = some (.map (some SH)) ∧ w'.mapAt SH = some (#[], 0) ∧ w'.oldB S = true ∧ w'.oldB SH = true ∧
        ∀ B, B ≤ K → B ≤ w.heap.size → Below B w w' := by
  have hK' := hK
  have hG' := hG
  obtain ⟨hk0, hk1, hk2, hk3, hy0, hy1, hy2, hy3, oK⟩ := hK'
  obtain ⟨hgc0, hgm0, og0, om0⟩ := hG'
  go_enter Tryz.func26, Tryz.ntmps26
  go_wp2_with fail
  go_at_call 23
  refine (From_empty G0 M0 (ck := ck0) _ hgc0 og0 hgm0 om0).mono ?_
  rintro e w1 ⟨S, SH, rfl, hB, hs2, hsm, oS, oSH⟩
  obtain ⟨hk0, hk1, hk2, hk3, hy0, hy1, hy2, hy3, oK1⟩ := hK.below hB
  have hne : K = S ∨ K ≠ S := Classical.em _
  clear hK hG
  go_wp2_with fail
  go_end0
  have hx : ∀ (i : Nat), (w1.setCell ⟨K, 3, none⟩ (.pointer (some ⟨S, 0, none⟩))).cell? ⟨S, 2, none⟩ = w1.cell? ⟨S, 2, none⟩ := by
    intro i
    exact World.cell?_setCell_other _ ⟨K, 3, none⟩ ⟨S, 2, none⟩ _ (by simp)
  refine ⟨rfl, S, SH, ?_, ?_, ?_, ?_, ?_, ?_⟩
  · constructor <;> go_simp
  · rw [hx 0]; exact hs2
  · go_simp
  · go_simp
  · go_simp
  · intro B b1 b2
    refine (hB.mono b2).trans ?_
    exact (by repeat (first | (with_reducible exact Below.refl _ _) | (with_reducible refine Below.drew ?_) | (with_reducible refine below_drewN ?_ _) | (with_reducible refine below_ext _ _ _ ?_ ?_) | (with_reducible refine Below.alloc ?_ ?_ _) | (with_reducible refine Below.setCell ?_ ?_ _) | (with_reducible refine below_putMap ?_ ?_ _ _) | assumption | (focus (simp; done)) | (focus (simp; omega)) | (focus omega) | refine below_tr (by assumption) (by simp <;> omega) ?_))

set_option maxHeartbeats 0 in
set_option maxRecDepth 20000 in
theorem book_Undo (K S g G0 M0 hh cn : Nat) {ck0 : Nat} (w : World) (hK : BookAt w K (.pointer (some ⟨g, 0, none⟩)) (.slice (some ⟨hh, 0, none⟩) 1 cn) (.slice none 0 0) (.pointer (some ⟨S, 0, none⟩)))
    (hh0 : w.cell? ⟨hh, 0, none⟩ = some (.pointer (some ⟨G0, 0, none⟩))) (oh : w.oldB hh = true) (hcn : 1 ≤ cn) (hG : GridAt w G0 M0 #[] ck0) (hKG : K ≠ G0) :
    Calls Tryz.prog 8 #[.pointer (some ⟨K, 0, none⟩)] w
      fun e w' => e = .returned (.int .i64 0) ∧ ∃ S SH b1 b3 c3, BookAt w' K (.pointer (some ⟨G0, 0, none⟩)) (.slice (some ⟨b1, 0, none⟩) 0 0) (.slice (some ⟨b3, 0, none⟩) 1 c3) (.pointer (some ⟨S, 0, none⟩)) ∧ w'.cell? ⟨S, 2, none⟩ = some (.map (some SH)) ∧ w'.mapAt SH = some (#[], 0) ∧ w'.oldB S = true ∧ w'.oldB SH = true ∧
        ∀ B, B ≤ K → B ≤ w.heap.size → Below B w w' := by
  obtain ⟨hk0, hk1, hk2, hk3, hy0, hy1, hy2, hy3, oK⟩ := hK
  obtain ⟨hgc0, hgm0, og0, om0⟩ := hG
  go_enter Tryz.func8, Tryz.ntmps8
  go_wp2_with fail
  go_at_call 25
  refine (rows_back K hh cn _ _ _ oK hk0 hk1 hk2 hy0 hy1 hy2 hh0 oh hcn).mono ?_
  rintro e w1 ⟨rfl, b1, b3, c3, E, d, hw1⟩
  have hK1 : BookAt w1 K (.pointer (some ⟨G0, 0, none⟩)) (.slice (some ⟨b1, 0, none⟩) 0 0) (.slice (some ⟨b3, 0, none⟩) 1 c3) (.pointer (some ⟨S, 0, none⟩)) := by
    rw [hw1]; constructor <;> go_simp
  have hG1 : GridAt w1 G0 M0 #[] ck0 := by
    rw [hw1]; constructor <;> go_simp
  have hB1 : ∀ B, B ≤ K → B ≤ w.heap.size → Below B w w1 := by
    intro B z1 z2
    rw [hw1]
    exact (by repeat (first | (with_reducible exact Below.refl _ _) | (with_reducible refine Below.drew ?_) | (with_reducible refine below_drewN ?_ _) | (with_reducible refine below_ext _ _ _ ?_ ?_) | (with_reducible refine Below.alloc ?_ ?_ _) | (with_reducible refine Below.setCell ?_ ?_ _) | (with_reducible refine below_putMap ?_ ?_ _ _) | assumption | (focus (simp; done)) | (focus (simp; omega)) | (focus omega) | refine below_tr (by assumption) (by simp <;> omega) ?_))
  have hsz : w.heap.size ≤ w1.heap.size := by rw [hw1]; simp
  clear hw1
  go_wp2_with fail
  go_at_call 26
  refine (book_anew K G0 M0 (ck0 := ck0) _ _ _ _ hK1 hG1).mono ?_
  rintro e w2 ⟨rfl, S', SH', q1, q2, q3, q4, q5, q6⟩
  go_wp2_with fail
  go_ret
  exact ⟨rfl, S', SH', b1, b3, c3, q1, q2, q3, q4, q5, fun B z1 z2 => (hB1 B z1 z2).trans (q6 B z1 (by omega))⟩

theorem book_Undo_none (K : Nat) (v0 v2 v3 : Value) (w : World) (hK : BookAt w K v0 (.slice none 0 0) v2 v3) :
    Calls Tryz.prog 8 #[.pointer (some ⟨K, 0, none⟩)] w fun e w' => e = .returned (.int .i64 43) ∧ w = w' := by
  obtain ⟨hk0, hk1, hk2, hk3, hy0, hy1, hy2, hy3, oK⟩ := hK
  go_enter Tryz.func8, Tryz.ntmps8
  go_wp2
  go_ret
  exact ⟨rfl, rfl⟩
end Go.Proofs.YtencimimccoofaaGreatDoor
