/- The law's first examples; the law. -/
import Derived.Test.YtencimimccoofaaGreatDoor25
import Derived.Test.YtencimimccoofaaGreatDoor26
import Derived.Test.YtencimimccoofaaGreatDoor28
namespace Go.Proofs.YtencimimccoofaaGreatDoor
set_option linter.all false
open Go.RowKit Go.Shelf

theorem seven_one : oneF 4619567317775286272 = 4619567317775286272 := by decide +kernel
theorem seven_ok : contOk 1 1 4619567317775286272 ⟨#[]⟩ false 0 (noNode 0 0 0 ⟨#[]⟩ false 0 0 0 false false 0 0 false false 0) = true := by decide +kernel
theorem zero_one : oneF 0 = 0 := by decide +kernel
theorem addr11 : addrValid 1 1 = true := by decide +kernel
theorem valOrd_self (y : Nat) : (valOrd 1 y ⟨#[]⟩ false 0 1 y ⟨#[]⟩ false 0 == 0) = true := by simp [valOrd, cmpI]

/-- the first batch of the examples -/
theorem first_Do (K S G MG L ML SH G0 M0 P cp : Nat) (v3 v4 : Value) (w w2 : World) (hw : Below w.heap.size w w2)
    (hK : BookAt w K (.pointer (some ⟨G0, 0, none⟩)) (.slice none 0 0) (.slice none 0 0) (.pointer (some ⟨S, 0, none⟩)))
    (hG0 : GridAt w G0 M0 #[] 0) (hS : SheetAt w S G MG L ML SH #[] 0 #[] 0 0 v3 v4)
    (h0 : w2.hasC P 23 = true) (h1 : w2.cellsAt P 0 23 = #[.int .i64 1, .int .i64 1, .int .i64 1, .int .i64 1, .float .f64 4619567317775286272, .string ⟨#[]⟩, .bool false, .int .i64 0, .int .i64 0, .int .i64 0, .float .f64 0, .string ⟨#[]⟩, .bool false, .int .i64 0, .int .i64 0, .int .i64 0, .bool false, .bool false, .int .i64 0, .int .i64 0, .bool false, .bool false, .slice none 0 0]) (hP : w2.oldB P = true) (hPl : w.heap.size ≤ P)
    (d1 : S ≠ G) (d2 : S ≠ L) (d4 : SH ≠ ML) (d5 : MG ≠ ML) (d6 : SH ≠ MG) (d7 : MG ≠ SH) (d8 : S ≠ K) (d9 : S ≠ G0) (d10 : MG ≠ M0) (d11 : SH ≠ M0) (d12 : K ≠ S) (d13 : K ≠ G) (d14 : K ≠ L) (d15 : K ≠ G0) :
    Calls Tryz.prog 5 #[.pointer (some ⟨K, 0, none⟩), .slice (some ⟨P, 0, none⟩) 1 cp] w2
      fun e w' => e = .returned (.tuple #[.int .i64 0, .int .i64 0]) ∧ (∀ B, B ≤ K → B ≤ S → B ≤ MG → B ≤ SH → B ≤ w.heap.size → Below B w w') ∧ ∃ g m n cn v4', 1 ≤ cn ∧ w.heap.size ≤ g ∧ w.heap.size ≤ m ∧ w.heap.size ≤ n ∧
        BookAt w' K (.pointer (some ⟨g, 0, none⟩)) (.slice (some ⟨n, 0, none⟩) 1 cn) (.slice none 0 0) (.pointer (some ⟨S, 0, none⟩)) ∧
        w'.cell? ⟨n, 0, none⟩ = some (.pointer (some ⟨G0, 0, none⟩)) ∧ w'.oldB n = true ∧ GridAt w' g m #[⟨.agg #[.int .i64 1, .int .i64 1], .agg #[.int .i64 1, .int .i64 1, .float .f64 4619567317775286272, .string ⟨#[]⟩, .bool false, .int .i64 0, .int .i64 0, .int .i64 0, .float .f64 0, .string ⟨#[]⟩, .bool false, .int .i64 0, .int .i64 0, .int .i64 0, .bool false, .bool false, .int .i64 0, .int .i64 0, .bool false, .bool false, .slice none 0 0], 0⟩] 1 ∧ GridAt w' G0 M0 #[] 0 ∧
        SheetAt w' S G MG L ML SH #[⟨.agg #[.int .i64 1, .int .i64 1], .agg #[.int .i64 1, .int .i64 1, .float .f64 4619567317775286272, .string ⟨#[]⟩, .bool false, .int .i64 0, .int .i64 0, .int .i64 0, .float .f64 0, .string ⟨#[]⟩, .bool false, .int .i64 0, .int .i64 0, .int .i64 0, .bool false, .bool false, .int .i64 0, .int .i64 0, .bool false, .bool false, .slice none 0 0], 0⟩] 1 #[⟨.agg #[.int .i64 1, .int .i64 1], .agg #[.int .i64 1, .float .f64 4619567317775286272, .string ⟨#[]⟩, .bool false, .int .i64 0], 0⟩] 1 0 (.slice none 0 0) v4' := by
  have d3 : S ≠ P := by have := oldB_lt hS.oS; omega
  have hsz := hw.size
  refine (Do_new K S G MG L ML SH G0 M0 P cp (ck0 := 0) (ck := 0) (cks := 0) (ckl := 0) 1 1 4619567317775286272 ⟨#[]⟩ false 0 0 0 0 ⟨#[]⟩ false 0 0 0 false false 0 0 false false v3 v4 w2 addr11 seven_ok (hK.below hw) (hG0.below hw) (hS.below hw) h0 h1 hP d1 d2 d3 d4 d5 d6 d7 d8 d9 d10 d11 d12 d13 d14 d15).mono ?_
  rintro e w' ⟨rfl, hB, g, m, n, cn, v4', hcn, hg, hm, hn, hK2, hnc, on, hg2, hG2, hS2⟩
  simp only [seven_one, zero_one] at hg2 hS2
  exact ⟨rfl, fun B b1 b2 b3 b4 b5 => (hw.mono b5).trans (hB B b1 b2 b3 b4 (by omega)), g, m, n, cn, v4', hcn, by omega, by omega, by omega, hK2, hnc, on, hg2, hG2, hS2⟩

/-- the same batch again -/
theorem second_Do (K S G MG L ML SH g m P cp hh cn : Nat) (v3 v4 vn : Value) (w w2 : World) (hw : Below w.heap.size w w2)
    (hK : BookAt w K (.pointer (some ⟨g, 0, none⟩)) (.slice (some ⟨hh, 0, none⟩) 1 cn) (.slice none 0 0) (.pointer (some ⟨S, 0, none⟩)))
    (hG0 : GridAt w g m #[⟨.agg #[.int .i64 1, .int .i64 1], .agg #[.int .i64 1, .int .i64 1, .float .f64 4619567317775286272, .string ⟨#[]⟩, .bool false, .int .i64 0, .int .i64 0, .int .i64 0, .float .f64 0, .string ⟨#[]⟩, .bool false, .int .i64 0, .int .i64 0, .int .i64 0, .bool false, .bool false, .int .i64 0, .int .i64 0, .bool false, .bool false, .slice none 0 0], 0⟩] 1) (hS : SheetAt w S G MG L ML SH #[⟨.agg #[.int .i64 1, .int .i64 1], .agg #[.int .i64 1, .int .i64 1, .float .f64 4619567317775286272, .string ⟨#[]⟩, .bool false, .int .i64 0, .int .i64 0, .int .i64 0, .float .f64 0, .string ⟨#[]⟩, .bool false, .int .i64 0, .int .i64 0, .int .i64 0, .bool false, .bool false, .int .i64 0, .int .i64 0, .bool false, .bool false, .slice none 0 0], 0⟩] 1 #[⟨.agg #[.int .i64 1, .int .i64 1], .agg #[.int .i64 1, .float .f64 4619567317775286272, .string ⟨#[]⟩, .bool false, .int .i64 0], 0⟩] 1 0 v3 v4) (hn : w.cell? ⟨hh, 0, none⟩ = some vn) (on : w.oldB hh = true)
    (h0 : w2.hasC P 23 = true) (h1 : w2.cellsAt P 0 23 = #[.int .i64 1, .int .i64 1, .int .i64 1, .int .i64 1, .float .f64 4619567317775286272, .string ⟨#[]⟩, .bool false, .int .i64 0, .int .i64 0, .int .i64 0, .float .f64 0, .string ⟨#[]⟩, .bool false, .int .i64 0, .int .i64 0, .int .i64 0, .bool false, .bool false, .int .i64 0, .int .i64 0, .bool false, .bool false, .slice none 0 0]) (hP : w2.oldB P = true) (hPl : w.heap.size ≤ P)
    (d1 : S ≠ G) (d2 : S ≠ L) (d4 : SH ≠ ML) (d5 : MG ≠ ML) (d6 : SH ≠ MG) (d7 : MG ≠ SH) (d8 : S ≠ K) (d9 : S ≠ g) (d10 : MG ≠ m) (d12 : K ≠ S) (d16 : S ≠ hh) :
    Calls Tryz.prog 5 #[.pointer (some ⟨K, 0, none⟩), .slice (some ⟨P, 0, none⟩) 1 cp] w2
      fun e w' => e = .returned (.tuple #[.int .i64 0, .int .i64 0]) ∧ (∀ B, B ≤ S → B ≤ MG → B ≤ w.heap.size → Below B w w') ∧
        BookAt w' K (.pointer (some ⟨g, 0, none⟩)) (.slice (some ⟨hh, 0, none⟩) 1 cn) (.slice none 0 0) (.pointer (some ⟨S, 0, none⟩)) ∧
        w'.cell? ⟨hh, 0, none⟩ = some vn ∧ w'.oldB hh = true ∧ (∀ G1 M1 ck1, S ≠ G1 → MG ≠ M1 → GridAt w G1 M1 #[] ck1 → GridAt w' G1 M1 #[] ck1) ∧
        SheetAt w' S G MG L ML SH #[⟨.agg #[.int .i64 1, .int .i64 1], .agg #[.int .i64 1, .int .i64 1, .float .f64 4619567317775286272, .string ⟨#[]⟩, .bool false, .int .i64 0, .int .i64 0, .int .i64 0, .float .f64 0, .string ⟨#[]⟩, .bool false, .int .i64 0, .int .i64 0, .int .i64 0, .bool false, .bool false, .int .i64 0, .int .i64 0, .bool false, .bool false, .slice none 0 0], 0⟩] 1 #[⟨.agg #[.int .i64 1, .int .i64 1], .agg #[.int .i64 1, .float .f64 4619567317775286272, .string ⟨#[]⟩, .bool false, .int .i64 0], 0⟩] 1 0 (.slice none 0 0) (.slice none 0 0) := by
  have d3 : S ≠ P := by have := oldB_lt hS.oS; omega
  have hsz := hw.size
  refine (Do_same K S G MG L ML SH g m P cp hh cn (ckg := 1) (ck := 1) (cks := 1) (ckl := 0) 1 1 4619567317775286272 ⟨#[]⟩ false 0 0 0 0 ⟨#[]⟩ false 0 0 0 false false 0 0 false false 1 4619567317775286272 ⟨#[]⟩ false 0 0 0 0 ⟨#[]⟩ false 0 0 0 false false 0 0 false false 1 4619567317775286272 ⟨#[]⟩ false 0 0 0 v3 v4 vn w2 addr11 seven_ok (by rw [seven_one, seven_one, seven_one]; exact valOrd_self _) (by rw [seven_one]; exact valOrd_self _) (by omega) (hK.below hw) (hG0.below hw) (hS.below hw) ((cell_below hw on 0).trans hn) (old_below hw on) h0 h1 hP d1 d2 d3 d4 d5 d6 d7 d8 d9 d10 d12 d16).mono ?_
  rintro e w' ⟨rfl, hB, hK2, hnc, on2, hGs, hS2⟩
  simp only [seven_one, zero_one] at hS2
  exact ⟨rfl, fun B b1 b2 b3 => (hw.mono b3).trans (hB B b1 b2 (by omega)), hK2, hnc, on2, fun G1 M1 ck1 z1 z2 hz => hGs G1 M1 ck1 z1 z2 (hz.below hw), hS2⟩

set_option maxHeartbeats 0 in
set_option maxRecDepth 20000 in
theorem law_awake (w : World) : Calls Tryz.prog 4 #[] w fun e w' => e = .returned (.bool true) ∧ Below w.heap.size w w' := by
  have hf7 : (FloatKind.f64.format.order 4619567317775286272 4619567317775286272 == some Ordering.eq) = true := by decide +kernel
  go_enter Tryz.func4, Tryz.ntmps4
  go_wp2_with fail
  go_at_call 16
  refine (edits_New _).mono ?_
  rintro e w1 ⟨rfl, hw1⟩
  obtain ⟨hK, hG0, hS, hB1, hz1⟩ := bookW_at w
  rw [← hw1] at hK hG0 hS hB1 hz1
  clear hw1
  obtain ⟨K, hKe⟩ : ∃ n, n = w.heap.size + 8 := ⟨_, rfl⟩
  obtain ⟨S, hSe⟩ : ∃ n, n = w.heap.size + 7 := ⟨_, rfl⟩
  obtain ⟨G, hGe⟩ : ∃ n, n = w.heap.size + 3 := ⟨_, rfl⟩
  obtain ⟨MG, hMGe⟩ : ∃ n, n = w.heap.size + 2 := ⟨_, rfl⟩
  obtain ⟨L, hLe⟩ : ∃ n, n = w.heap.size + 5 := ⟨_, rfl⟩
  obtain ⟨ML, hMLe⟩ : ∃ n, n = w.heap.size + 4 := ⟨_, rfl⟩
  obtain ⟨SH, hSHe⟩ : ∃ n, n = w.heap.size + 6 := ⟨_, rfl⟩
  obtain ⟨G0, hG0e⟩ : ∃ n, n = w.heap.size + 1 := ⟨_, rfl⟩
  obtain ⟨M0, hM0e⟩ : ∃ n, n = w.heap.size := ⟨_, rfl⟩
  have hK1 : BookAt w1 K (.pointer (some ⟨G0, 0, none⟩)) (.slice none 0 0) (.slice none 0 0) (.pointer (some ⟨S, 0, none⟩)) := by rw [hKe, hG0e, hSe]; exact hK
  have hG1 : GridAt w1 G0 M0 #[] 0 := by rw [hG0e, hM0e]; exact hG0
  have hS1 : SheetAt w1 S G MG L ML SH #[] 0 #[] 0 0 (.slice none 0 0) (.slice none 0 0) := by rw [hSe, hGe, hMGe, hLe, hMLe, hSHe]; exact hS
  clear hK hG0 hS
  rw [← hKe]
  have da : S ≠ G := by omega
  have d2 : S ≠ L := by omega
  have d4 : SH ≠ ML := by omega
  have d5 : MG ≠ ML := by omega
  have d6 : SH ≠ MG := by omega
  have d7 : MG ≠ SH := by omega
  have d8 : S ≠ K := by omega
  have d9 : S ≠ G0 := by omega
  have d10 : MG ≠ M0 := by omega
  have d11 : SH ≠ M0 := by omega
  have d12 : K ≠ S := by omega
  have d13 : K ≠ G := by omega
  have d14 : K ≠ L := by omega
  have d15 : K ≠ G0 := by omega
  have l1 : w.heap.size ≤ K := by omega
  have l2 : w.heap.size ≤ S := by omega
  have l3 : w.heap.size ≤ MG := by omega
  have l4 : w.heap.size ≤ SH := by omega
  have u1 : S < w1.heap.size := by omega
  have u2 : MG < w1.heap.size := by omega
  have hsz1 : w.heap.size ≤ w1.heap.size := by omega
  clear hKe hSe hGe hMGe hLe hMLe hSHe hG0e hM0e hz1
  dsimp only
  go_wp2_with (first | (go_at_call 8; refine (book_Undo_none K _ _ _ _ hK1).mono ?_; rintro e w' ⟨rfl, rfl⟩) | (go_at_call 18; refine (law_cell _ _ _).mono ?_; rintro e w' ⟨rfl, hbel⟩; obtain ⟨E1, d1, rfl⟩ := ext_of_below hbel; clear hbel) | (go_at_call 17; refine (law_number _ _ _ _).mono ?_; rintro e w' ⟨rfl, hbel⟩; obtain ⟨E1, d1, rfl⟩ := ext_of_below hbel; clear hbel))
  go_at_call 5
  refine (first_Do K S G MG L ML SH G0 M0 _ _ _ _ w1 _ ?_ hK1 hG1 hS1 ?_ ?_ ?_ ?_ da d2 d4 d5 d6 d7 d8 d9 d10 d11 d12 d13 d14 d15).mono ?_
  · exact (by repeat (first | (with_reducible exact Below.refl _ _) | (with_reducible refine Below.drew ?_) | (with_reducible refine below_drewN ?_ _) | (with_reducible refine below_ext _ _ _ ?_ ?_) | (with_reducible refine Below.alloc ?_ ?_ _) | (with_reducible refine Below.setCell ?_ ?_ _) | (with_reducible refine below_putMap ?_ ?_ _ _) | assumption | (focus (simp; done)) | (focus (simp; omega)) | (focus omega) | refine below_tr (by assumption) (by simp <;> omega) ?_))
  · go_simp
  · go_simp
  · go_simp
  · omega
  rintro e w2 ⟨rfl, hB2, g, m, n, cn, v4', hcn, hg, hm, hn, hK2, hnc, on, hg2, hG2, hS2⟩
  have hBw2 : Below w.heap.size w w2 := hB1.trans (hB2 _ l1 l2 l3 l4 hsz1)
  have e1 : S ≠ g := by omega
  have e2 : MG ≠ m := by omega
  have e3 : S ≠ n := by omega
  clear hB2 hK1 hG1 hS1 hB1
  go_wp2_with (first | (go_at_call 18; refine (law_cell _ _ _).mono ?_; rintro e w' ⟨rfl, hbel⟩; obtain ⟨E1, d1, rfl⟩ := ext_of_below hbel; clear hbel) | (go_at_call 17; refine (law_number _ _ _ _).mono ?_; rintro e w' ⟨rfl, hbel⟩; obtain ⟨E1, d1, rfl⟩ := ext_of_below hbel; clear hbel))
  go_at_call 5
  refine (second_Do K S G MG L ML SH g m _ _ n cn _ _ _ w2 _ ?_ hK2 hg2 hS2 hnc on ?_ ?_ ?_ ?_ da d2 d4 d5 d6 d7 d8 e1 e2 d12 e3).mono ?_
  · exact (by repeat (first | (with_reducible exact Below.refl _ _) | (with_reducible refine Below.drew ?_) | (with_reducible refine below_drewN ?_ _) | (with_reducible refine below_ext _ _ _ ?_ ?_) | (with_reducible refine Below.alloc ?_ ?_ _) | (with_reducible refine Below.setCell ?_ ?_ _) | (with_reducible refine below_putMap ?_ ?_ _ _) | assumption | (focus (simp; done)) | (focus (simp; omega)) | (focus omega) | refine below_tr (by assumption) (by simp <;> omega) ?_))
  · go_simp
  · go_simp
  · go_simp
  · omega
  rintro e w3 ⟨rfl, hB3, hK3, hnc3, on3, hGs3, hS3⟩
  have hBw3 : Below w.heap.size w w3 := hBw2.trans (hB3 _ l2 l3 hBw2.size)
  have hG3 := hGs3 G0 M0 0 d9 d10 hG2
  have hsz3 := hBw3.size
  clear hB3 hK2 hG2 hS2 hg2 hBw2 hGs3 hnc on
  have hK3' := hK3
  have hS3' := hS3
  obtain ⟨hk0, hk1, hk2, hk3, hy0, hy1, hy2, hy3, oK⟩ := hK3'
  obtain ⟨hs0, hs1, hs2, hs3, hs4, hz3, hz4, hgc, hgm, hl, hlm, hsm, oS, oG, oMG, oL, oML, oSH⟩ := hS3'
  go_wp2_with (first | (go_at_call 10; refine (book_Backs K 1 cn _ _ hk1).mono ?_; rintro e w' ⟨rfl, rfl⟩) | (go_at_call 18; refine (law_cell _ _ _).mono ?_; rintro e w' ⟨rfl, hbel⟩; obtain ⟨E1, d1, rfl⟩ := ext_of_below hbel; clear hbel) | (go_at_call 14; refine (book_Value_some K S SH (sh := #[⟨.agg #[.int .i64 1, .int .i64 1], .agg #[.int .i64 1, .float .f64 4619567317775286272, .string ⟨#[]⟩, .bool false, .int .i64 0], 0⟩]) (cks := 1) 1 1 1 4619567317775286272 ⟨#[]⟩ false 0 _ (by go_simp) (by go_simp) (by go_simp) (by go_simp) (by go_simp) (by go_simp) (AddrKeys_one _ _ _ _) (lookE_one _ _ _ _)).mono ?_; rintro e w' ⟨rfl, hbel⟩; obtain ⟨E1, d1, rfl⟩ := ext_of_below hbel; clear hbel))
  go_at_call 8
  refine (book_Undo K S g G0 M0 n cn (ck0 := 0) _ (hK3.below ?_) ((cell_below ?_ on3 0).trans hnc3) (old_below (B := w3.heap.size) ?_ on3) hcn (hG3.below ?_) d15).mono ?_
  · exact (by repeat (first | (with_reducible exact Below.refl _ _) | (with_reducible refine Below.drew ?_) | (with_reducible refine below_drewN ?_ _) | (with_reducible refine below_ext _ _ _ ?_ ?_) | (with_reducible refine Below.alloc ?_ ?_ _) | (with_reducible refine Below.setCell ?_ ?_ _) | (with_reducible refine below_putMap ?_ ?_ _ _) | assumption | (focus (simp; done)) | (focus (simp; omega)) | (focus omega) | refine below_tr (by assumption) (by simp <;> omega) ?_))
  · exact (by repeat (first | (with_reducible exact Below.refl _ _) | (with_reducible refine Below.drew ?_) | (with_reducible refine below_drewN ?_ _) | (with_reducible refine below_ext _ _ _ ?_ ?_) | (with_reducible refine Below.alloc ?_ ?_ _) | (with_reducible refine Below.setCell ?_ ?_ _) | (with_reducible refine below_putMap ?_ ?_ _ _) | assumption | (focus (simp; done)) | (focus (simp; omega)) | (focus omega) | refine below_tr (by assumption) (by simp <;> omega) ?_))
  · exact (by repeat (first | (with_reducible exact Below.refl _ _) | (with_reducible refine Below.drew ?_) | (with_reducible refine below_drewN ?_ _) | (with_reducible refine below_ext _ _ _ ?_ ?_) | (with_reducible refine Below.alloc ?_ ?_ _) | (with_reducible refine Below.setCell ?_ ?_ _) | (with_reducible refine below_putMap ?_ ?_ _ _) | assumption | (focus (simp; done)) | (focus (simp; omega)) | (focus omega) | refine below_tr (by assumption) (by simp <;> omega) ?_))
  · exact (by repeat (first | (with_reducible exact Below.refl _ _) | (with_reducible refine Below.drew ?_) | (with_reducible refine below_drewN ?_ _) | (with_reducible refine below_ext _ _ _ ?_ ?_) | (with_reducible refine Below.alloc ?_ ?_ _) | (with_reducible refine Below.setCell ?_ ?_ _) | (with_reducible refine below_putMap ?_ ?_ _ _) | assumption | (focus (simp; done)) | (focus (simp; omega)) | (focus omega) | refine below_tr (by assumption) (by simp <;> omega) ?_))
  rintro e w4 ⟨rfl, S', SH', b1, b3, c3, hK4, q2, q3, q4, q5, q6⟩
  have q7 := q6 w.heap.size l1 (by simp; omega)
  have hBw4 : Below w.heap.size w w4 := hBw3.trans (Below.trans (by exact (by repeat (first | (with_reducible exact Below.refl _ _) | (with_reducible refine Below.drew ?_) | (with_reducible refine below_drewN ?_ _) | (with_reducible refine below_ext _ _ _ ?_ ?_) | (with_reducible refine Below.alloc ?_ ?_ _) | (with_reducible refine Below.setCell ?_ ?_ _) | (with_reducible refine below_putMap ?_ ?_ _ _) | assumption | (focus (simp; done)) | (focus (simp; omega)) | (focus omega) | refine below_tr (by assumption) (by simp <;> omega) ?_))) q7)
  have hsz4 := hBw4.size
  clear q6 q7 hK3 hG3 hS3 hBw3 hk0 hk1 hk2 hk3 hy0 hy1 hy2 hy3 oK hs0 hs1 hs2 hs3 hs4 hz3 hz4 hgc hgm hl hlm hsm oS oG oMG oL oML oSH hnc3 on3
  obtain ⟨hk0, hk1, hk2, hk3, hy0, hy1, hy2, hy3, oK⟩ := hK4
  go_wp2_with (first | (go_at_call 11; refine (book_Agains K 1 c3 (some ⟨b3, 0, none⟩) _ (by go_simp)).mono ?_; rintro e w' ⟨rfl, rfl⟩) | (go_at_call 18; refine (law_cell _ _ _).mono ?_; rintro e w' ⟨rfl, hbel⟩; obtain ⟨E1, d1, rfl⟩ := ext_of_below hbel; clear hbel) | (go_at_call 14; refine (book_Value_none K S' SH' (sh := #[]) (cks := 0) 1 1 _ (by go_simp) (by go_simp) (by go_simp) (by go_simp) (by go_simp) (by go_simp) AddrKeys_nil (lookE_nil _ _)).mono ?_; rintro e w' ⟨rfl, hbel⟩; obtain ⟨E1, d1, rfl⟩ := ext_of_below hbel; clear hbel))
  go_ret
  exact ⟨rfl, hBw4.trans (by repeat (first | (with_reducible exact Below.refl _ _) | (with_reducible refine Below.drew ?_) | (with_reducible refine below_drewN ?_ _) | (with_reducible refine below_ext _ _ _ ?_ ?_) | (with_reducible refine Below.alloc ?_ ?_ _) | (with_reducible refine Below.setCell ?_ ?_ _) | (with_reducible refine below_putMap ?_ ?_ _ _) | assumption | (focus (simp; done)) | (focus (simp; omega)) | (focus omega) | refine below_tr (by assumption) (by simp <;> omega) ?_))⟩

set_option maxHeartbeats 0 in
set_option maxRecDepth 20000 in
theorem law_EditsNil (a : Option Addr) (n cp : Nat) (c r : Int) (w : World) : Calls Tryz.prog 3 #[.slice a n cp, .agg #[.int .i64 c, .int .i64 r]] w fun e w' => e = .returned (.bool true) ∧ Below w.heap.size w w' := by
  go_enter Tryz.func3, Tryz.ntmps3
  go_wp2_with (first | (go_at_call 4; refine (law_awake _).mono ?_; rintro e w' ⟨rfl, hbel⟩; obtain ⟨E1, d1, rfl⟩ := ext_of_below hbel; clear hbel) | (go_at_call 5; refine (Do_nil _ _ _ _).mono ?_; rintro e w' ⟨rfl, hbel⟩; obtain ⟨E1, d1, rfl⟩ := ext_of_below hbel; clear hbel) | (go_at_call 6; refine (Become_nil _ _).mono ?_; rintro e w' ⟨rfl, rfl⟩) | (go_at_call 8; refine (Undo_nil _).mono ?_; rintro e w' ⟨rfl, rfl⟩) | (go_at_call 9; refine (Redo_nil _).mono ?_; rintro e w' ⟨rfl, rfl⟩) | (go_at_call 10; refine (Backs_nil _).mono ?_; rintro e w' ⟨rfl, rfl⟩) | (go_at_call 11; refine (Agains_nil _).mono ?_; rintro e w' ⟨rfl, rfl⟩) | (go_at_call 12; refine (Sheet_nil _).mono ?_; rintro e w' ⟨rfl, rfl⟩) | (go_at_call 14; refine (Value_nil _ _ _).mono ?_; rintro e w' ⟨rfl, hbel⟩; obtain ⟨E1, d1, rfl⟩ := ext_of_below hbel; clear hbel) | (go_at_call 13; refine (law_same0 _).mono ?_; rintro e w' ⟨rfl, hbel⟩; obtain ⟨E1, d1, rfl⟩ := ext_of_below hbel; clear hbel) | (go_at_call 15; refine (Last_nil _).mono ?_; rintro e w' ⟨rfl, rfl⟩) | (go_at_call 7; refine (grid_New _).mono ?_; rintro e w' ⟨rfl, rfl⟩; unfold gridW))
  go_ret
  exact ⟨rfl, (by repeat (first | (with_reducible exact Below.refl _ _) | (with_reducible refine Below.drew ?_) | (with_reducible refine below_drewN ?_ _) | (with_reducible refine below_ext _ _ _ ?_ ?_) | (with_reducible refine Below.alloc ?_ ?_ _) | (with_reducible refine Below.setCell ?_ ?_ _) | (with_reducible refine below_putMap ?_ ?_ _ _) | assumption | (focus (simp; done)) | (focus (simp; omega)) | (focus omega) | refine below_tr (by assumption) (by simp <;> omega) ?_))⟩
end Go.Proofs.YtencimimccoofaaGreatDoor
