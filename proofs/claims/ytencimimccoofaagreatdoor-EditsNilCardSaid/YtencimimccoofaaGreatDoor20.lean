/- live.From of an empty grid. -/
import Derived.Test.YtencimimccoofaaGreatDoor20a
namespace Go.Proofs.YtencimimccoofaaGreatDoor
set_option linter.all false
open Go.RowKit Go.Shelf

theorem wp_rangeFunc_idle {P : Program} {g : Operand} {ps : Array Tmp} {assign body : Code} {Q : Exit → Act → World → Prop} {a : Act} {w : World}
    {gf : Nat} {lb : Array Value} (hg : a.eval g = .func (.func gf) #[] lb) (eg : ∀ args w, (callFunc gf args).run P w = .ok (.enter gf args) w)
    (hcall : ∀ (fn : FuncId), Calls P gf (#[.func (.yield (w.heap.size + 1)) #[] #[]] ++ lb) ((w.alloc (.deferred (some []))).alloc (.loop { state := .ready, pending := none, fn, tmps := a.tmps, params := ps, assign, body, defers := w.heap.size }))
      fun e W2 => (∃ v, e = .returned v) ∧ Below (w.heap.size + 2) ((w.alloc (.deferred (some []))).alloc (.loop { state := .ready, pending := none, fn, tmps := a.tmps, params := ps, assign, body, defers := w.heap.size })) W2)
    (hdone : ∀ (W : World), Below w.heap.size w W → W.defAt w.heap.size = true → W.oldB w.heap.size = true → Q .normal { a with defers := { target := .collected w.heap.size, args := #[] } :: a.defers } W) :
    (Code.rangeFunc g ps assign body).wp P Q a w := (wpIn_wide (n := 0)).1 (wpIn_rangeFunc_idle hg eg hcall hdone)

section
variable (w : World) (l : Nat) (o : Obj)
@[go_sem] theorem oldB_putObj (n : Nat) : (w.putObj l o).oldB n = w.oldB n := by simp [World.oldB]
@[go_sem] theorem cell_putObj (n i : Nat) (h : n ≠ l) : (w.putObj l o).cell? ⟨n, i, none⟩ = w.cell? ⟨n, i, none⟩ := by unfold World.cell?; rw [World.putObj_heap_other h]
@[go_sem] theorem frozen_putObj (n i : Nat) (h : n ≠ l) : (w.putObj l o).frozen? ⟨n, i, none⟩ = w.frozen? ⟨n, i, none⟩ := by unfold World.frozen?; rw [World.putObj_heap_other h]
@[go_sem] theorem mapAt_putObj (n : Nat) (h : n ≠ l) : (w.putObj l o).mapAt n = w.mapAt n := by unfold World.mapAt; rw [World.putObj_heap_other h]
end

set_option maxHeartbeats 3200000 in
set_option maxRecDepth 20000 in
theorem From_empty (g m : Nat) {ck : Nat} (w : World) (hg : w.cell? ⟨g, 0, none⟩ = some (.map (some m))) (hgo : w.oldB g = true) (hm : w.mapAt m = some (#[], ck)) (hmo : w.oldB m = true) :
    Calls Tryz.prog 23 #[.pointer (some ⟨g, 0, none⟩)] w fun e w' => ∃ S SH, e = .returned (.tuple #[.pointer (some ⟨S, 0, none⟩), .int .i64 0]) ∧
      Below w.heap.size w w' ∧ w'.cell? ⟨S, 2, none⟩ = some (.map (some SH)) ∧ w'.mapAt SH = some (#[], 0) ∧ w'.oldB S = true ∧ w'.oldB SH = true := by
  refine (callsIn_wide (n := 3)).1 ?_
  refine callsIn_of_wp_marks Tryz.func23 rfl trivial ?_ rfl
  refine wpIn_wide.2 ?_
  simp only [Tryz.ntmps23, List.size_toArray, List.length_cons, List.length_nil, Nat.reduceAdd, Nat.reduceSub, Array.replicate_succ, Array.replicate_zero, List.push_toArray, List.append_toArray, List.nil_append, List.cons_append]
  go_wp2_with fail
  go_at_call 31
  refine (live_New _).mono ?_
  rintro e w' ⟨rfl, hw'⟩
  obtain ⟨hSA, hB0⟩ := sheetW_at w
  rw [← hw'] at hSA hB0
  have hS := oldB_lt hSA.oS
  have hL := oldB_lt hSA.oL
  have hSH := oldB_lt hSA.oSH
  obtain ⟨S, hSe⟩ : ∃ S, S = w.heap.size + 5 := ⟨_, rfl⟩
  obtain ⟨G, hGe⟩ : ∃ S, S = w.heap.size + 1 := ⟨_, rfl⟩
  obtain ⟨MG, hMGe⟩ : ∃ S, S = w.heap.size := ⟨_, rfl⟩
  obtain ⟨L, hLe⟩ : ∃ S, S = w.heap.size + 3 := ⟨_, rfl⟩
  obtain ⟨ML, hMLe⟩ : ∃ S, S = w.heap.size + 2 := ⟨_, rfl⟩
  obtain ⟨SH, hSHe⟩ : ∃ S, S = w.heap.size + 4 := ⟨_, rfl⟩
  have hSA' : SheetAt w' S G MG L ML SH #[] 0 #[] 0 0 (.slice none 0 0) (.slice none 0 0) := by rw [hSe, hGe, hMGe, hLe, hMLe, hSHe]; exact hSA
  rw [← hSe] at hS ⊢
  rw [← hSHe] at hSH
  rw [← hLe] at hL
  have hg' : w'.cell? ⟨g, 0, none⟩ = some (.map (some m)) := (cell_below hB0 hgo 0).trans hg
  have hm' : w'.mapAt m = some (#[], ck) := (mapAt_below hB0 hmo).trans hm
  have hgo' : w'.oldB g = true := old_below hB0 hgo
  have hmo' : w'.oldB m = true := old_below hB0 hmo
  have hBs : w.heap.size ≤ w'.heap.size := hB0.size
  have d1 : w.heap.size ≤ S := by omega
  have d3 : S ≠ L := by omega
  have d4 : S ≠ SH := by omega
  clear hw' hSA hSe hGe hMGe hLe hMLe hSHe hg hm hgo hmo
  go_wp2_with (first | (go_at_call 40; refine (grid_All _ _).mono ?_; rintro e w' ⟨rfl, rfl⟩))
  refine wp_rangeFunc_idle (gf := 102) (lb := _) rfl (enters_of Tryz.func102 (by kernel_rfl) rfl) ?_ ?_
  · intro fn
    refine (some1_nil _ _ g m (ck := ck) _ _ ?_ ?_ ?_).mono ?_
    · go_simp
    · go_simp
    · go_simp
    · rintro e w' ⟨rfl, hB⟩
      exact ⟨⟨_, rfl⟩, hB.mono (by simp)⟩
  · intro W hB hd hD
    have c1 : W.cell? ⟨w'.heap.size, 0, none⟩ = some (.pointer (some ⟨S, 0, none⟩)) := (hB.cell (p := ⟨w'.heap.size, 0, none⟩) (by simp <;> omega)).trans (by go_simp)
    have c2 : W.cell? ⟨w'.heap.size + 1, 0, none⟩ = some (.slice none 0 0) := (hB.cell (p := ⟨w'.heap.size + 1, 0, none⟩) (by simp <;> omega)).trans (by go_simp)
    have o1 : W.oldB w'.heap.size = true := oldB_of (by have := hB.size; simp at this; omega)
    have o2 : W.oldB (w'.heap.size + 1) = true := oldB_of (by have := hB.size; simp at this; omega)
    have hBW : Below w'.heap.size w' W := (((((Below.refl _ w').alloc (Nat.le_refl _) _).alloc (by simp) _).alloc (by simp <;> omega) _).alloc (by simp <;> omega) _).trans (hB.mono (by simp <;> omega))
    have hBx : Below w.heap.size w W := hB0.trans (hBW.mono hBs)
    obtain ⟨hs0, hs1, hs2, hs3, hs4, hz3, hz4, hgc, hgm, hl, hlm, hsm, oS, oG, oMG, oL, oML, oSH⟩ := hSA'.below hBW
    obtain ⟨D, hDe⟩ : ∃ D, ((((w'.alloc (.cells #[.pointer (some ⟨S, 0, none⟩)] 35)).alloc (.cells #[.slice none 0 0] 71)).alloc (.cells #[.pointer (some ⟨g, 0, none⟩)] 31)).alloc (.cells #[.func (.func 71) #[] #[]] 105)).heap.size = D := ⟨_, rfl⟩
    rw [hDe] at hd hD ⊢
    have d5 : D ≠ S := by simp at hDe; omega
    have d6 : D ≠ SH := by simp at hDe; omega
    have d7 : w.heap.size ≤ D := by simp at hDe; omega
    have d8 : S ≠ D := by omega
    have d9 : SH ≠ D := by omega
    have d10 : S ≠ w'.heap.size := by omega
    clear hB hBW hDe hg' hm' hgo' hmo' hSA'
    have HL := Lib.hid hL
    clear hL hS hSH
    go_wp2_with fail
    go_region_held3 (fun X => X.cell? ⟨S, 1, none⟩ = some (.pointer (some ⟨L, 0, none⟩)) ∧ X.cell? ⟨w'.heap.size, 0, none⟩ = some (.pointer (some ⟨S, 0, none⟩)) ∧ X.cell? ⟨w'.heap.size + 1, 0, none⟩ = some (.slice none 0 0)) (((try dsimp only); (repeat' apply And.intro) <;> go_simp)) (first | (go_at_call 42; refine (formulas_none S _).mono ?_; rintro e w' ⟨rfl, hbel⟩; obtain ⟨E1, d1, rfl⟩ := ext_of_below hbel; clear hbel) | (go_at_call 41; refine (Order_nil L _).mono ?_; rintro e w' ⟨rfl, hbel⟩; obtain ⟨E1, d1, rfl⟩ := ext_of_below hbel; clear hbel))
    all_goals
      go_wp2_with fail
      go_at_call 38
      refine (work_none S L ML (ckl := 0) (.slice none 0 0) (.slice none 0 0) _ ?_ ?_ ?_ ?_ ?_ ?_ ?_ ?_ ?_ ?_ d3).mono ?_
      iterate 10 (focus (go_simp; done))
      rintro e w2 ⟨rfl, E3, dr3, rfl⟩
      go_wp2_with fail
      go_region_held3 (fun X => X.cell? ⟨w'.heap.size, 0, none⟩ = some (.pointer (some ⟨S, 0, none⟩))) (((try dsimp only); (repeat' apply And.intro) <;> go_simp)) (fail)
      all_goals
        go_wp2_with fail
        refine ⟨by simp, .inl ⟨_, _, rfl, run_takeDeferred (defAt_iff.1 ?_), ?_⟩⟩
        · go_simp
        · refine ⟨_, ?_, S, SH, rfl, ?_, ?_, ?_, ?_, ?_⟩
          · simp [results, Tryz.results23, go_sem]
          · refine below_putObj ?_ (by omega) _
            refine hBx.trans ?_
            have hW := hBx.size
            exact (by repeat (first | (with_reducible exact Below.refl _ _) | (with_reducible refine Below.drew ?_) | (with_reducible refine below_drewN ?_ _) | (with_reducible refine below_ext _ _ _ ?_ ?_) | (with_reducible refine Below.alloc ?_ ?_ _) | (with_reducible refine Below.setCell ?_ ?_ _) | (with_reducible refine below_putMap ?_ ?_ _ _) | assumption | (focus (simp; done)) | (focus (simp; omega)) | (focus omega) | refine below_tr (by assumption) (by simp <;> omega) ?_))
          · go_simp
          · go_simp
          · go_simp
          · go_simp
end Go.Proofs.YtencimimccoofaaGreatDoor
