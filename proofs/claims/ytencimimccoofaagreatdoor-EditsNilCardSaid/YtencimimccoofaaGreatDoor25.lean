/- A book's first batch: one put. -/
import Derived.Test.YtencimimccoofaaGreatDoor16
import Derived.Test.YtencimimccoofaaGreatDoor23
import Derived.Test.YtencimimccoofaaGreatDoor24
namespace Go.Proofs.YtencimimccoofaaGreatDoor
set_option linter.all false
open Go.RowKit Go.Shelf

set_option maxHeartbeats 0 in
set_option maxRecDepth 20000 in
theorem Do_new (K S G MG L ML SH G0 M0 P cp : Nat) {ck0 ck cks ckl : Nat} (c r : Int) (x : Nat) (s : ByteArray) (b : Bool) (f : Int) (nk no : Int) (nx : Nat) (ns : ByteArray) (nb : Bool) (nf : Int) (rc rr : Int) (rcf rrf : Bool) (tc tr : Int) (tcf trf : Bool) (v3 v4 : Value) (w : World) (ha : addrValid c r = true)
    (hv : contOk 1 1 x s b f (noNode nk no nx ns nb nf rc rr rcf rrf tc tr tcf trf 0) = true)
    (hK : BookAt w K (.pointer (some ⟨G0, 0, none⟩)) (.slice none 0 0) (.slice none 0 0) (.pointer (some ⟨S, 0, none⟩)))
    (hG0 : GridAt w G0 M0 #[] ck0) (hS : SheetAt w S G MG L ML SH #[] ck #[] cks ckl v3 v4)
    (h0 : w.hasC P 23 = true) (h1 : w.cellsAt P 0 23 = #[.int .i64 c, .int .i64 r, .int .i64 1, .int .i64 1, .float .f64 x, .string s, .bool b, .int .i64 f, .int .i64 nk, .int .i64 no, .float .f64 nx, .string ns, .bool nb, .int .i64 nf, .int .i64 rc, .int .i64 rr, .bool rcf, .bool rrf, .int .i64 tc, .int .i64 tr, .bool tcf, .bool trf, .slice none 0 0]) (hP : w.oldB P = true)
    (d1 : S ≠ G) (d2 : S ≠ L) (d3 : S ≠ P) (d4 : SH ≠ ML) (d5 : MG ≠ ML) (d6 : SH ≠ MG) (d7 : MG ≠ SH) (d8 : S ≠ K) (d9 : S ≠ G0) (d10 : MG ≠ M0) (d11 : SH ≠ M0) (d12 : K ≠ S) (d13 : K ≠ G) (d14 : K ≠ L) (d15 : K ≠ G0) :
    Calls Tryz.prog 5 #[.pointer (some ⟨K, 0, none⟩), .slice (some ⟨P, 0, none⟩) 1 cp] w
      fun e w' => e = .returned (.tuple #[.int .i64 0, .int .i64 0]) ∧ (∀ B, B ≤ K → B ≤ S → B ≤ MG → B ≤ SH → B ≤ w.heap.size → Below B w w') ∧ ∃ g m n cn v4', 1 ≤ cn ∧ w.heap.size ≤ g ∧ w.heap.size ≤ m ∧ w.heap.size ≤ n ∧
        BookAt w' K (.pointer (some ⟨g, 0, none⟩)) (.slice (some ⟨n, 0, none⟩) 1 cn) (.slice none 0 0) (.pointer (some ⟨S, 0, none⟩)) ∧
        w'.cell? ⟨n, 0, none⟩ = some (.pointer (some ⟨G0, 0, none⟩)) ∧ w'.oldB n = true ∧ GridAt w' g m #[⟨.agg #[.int .i64 c, .int .i64 r], .agg #[.int .i64 1, .int .i64 1, .float .f64 (oneF x), .string s, .bool b, .int .i64 f, .int .i64 nk, .int .i64 no, .float .f64 (oneF nx), .string ns, .bool nb, .int .i64 nf, .int .i64 rc, .int .i64 rr, .bool rcf, .bool rrf, .int .i64 tc, .int .i64 tr, .bool tcf, .bool trf, .slice none 0 0], ck⟩] (ck + 1) ∧ GridAt w' G0 M0 #[] ck0 ∧
        SheetAt w' S G MG L ML SH #[⟨.agg #[.int .i64 c, .int .i64 r], .agg #[.int .i64 1, .int .i64 1, .float .f64 (oneF x), .string s, .bool b, .int .i64 f, .int .i64 nk, .int .i64 no, .float .f64 (oneF nx), .string ns, .bool nb, .int .i64 nf, .int .i64 rc, .int .i64 rr, .bool rcf, .bool rrf, .int .i64 tc, .int .i64 tr, .bool tcf, .bool trf, .slice none 0 0], ck⟩] (ck + 1) #[⟨.agg #[.int .i64 c, .int .i64 r], .agg #[.int .i64 1, .float .f64 (oneF (oneF (oneF x))), .string ⟨#[]⟩, .bool false, .int .i64 0], cks⟩] (cks + 1) ckl (.slice none 0 0) v4' := by
  have hK' := hK
  have hS' := hS
  have hG0' := hG0
  obtain ⟨hk0, hk1, hk2, hk3, hy0, hy1, hy2, hy3, oK⟩ := hK'
  obtain ⟨hgc0, hgm0, og0, om0⟩ := hG0'
  obtain ⟨hs0, hs1, hs2, hs3, hs4, hz3, hz4, hgc, hgm, hl, hlm, hsm, oS, oG, oMG, oL, oML, oSH⟩ := hS'
  have hmf : ∀ (fn : Fn) (first cap : Array Value) (w : World), (Instr.makeFunc fn first cap).run Tryz.prog w = .ok (.func fn first cap) w := fun _ _ _ _ => rfl
  go_enter_defers Tryz.func5, Tryz.ntmps5
  go_wp2_with fail
  go_at_call 20
  refine (Set_new S G MG L ML SH P cp (ck := ck) (cks := cks) (ckl := ckl) c r x s b f nk no nx ns nb nf rc rr rcf rrf tc tr tcf trf v3 v4 _ ha hv ?_ ?_ ?_ ?_ ?_ ?_ ?_ ?_ ?_ ?_ ?_ ?_ ?_ ?_ ?_ ?_ ?_ ?_ d4 d5 ?_ ?_ ?_ d1 d2 d3 d6 d7).mono ?_
  iterate 21 (focus (go_simp; done))
  rintro e w1 ⟨rfl, n3, cp3, E3, d3', hw1⟩
  obtain ⟨W1, hW1⟩ : ∃ W, W = w1.setCell ⟨w.heap.size + 1, 0, none⟩ (.int .i64 0) := ⟨_, rfl⟩
  have hK1 : BookAt W1 K (.pointer (some ⟨G0, 0, none⟩)) (.slice none 0 0) (.slice none 0 0) (.pointer (some ⟨S, 0, none⟩)) := by
    rw [hW1, hw1]; constructor <;> go_simp
  have hG1 : GridAt W1 G0 M0 #[] ck0 := by
    rw [hW1, hw1]; constructor <;> go_simp
  have hS1 : SheetAt W1 S G MG L ML SH #[⟨.agg #[.int .i64 c, .int .i64 r], .agg #[.int .i64 1, .int .i64 1, .float .f64 (oneF x), .string s, .bool b, .int .i64 f, .int .i64 nk, .int .i64 no, .float .f64 (oneF nx), .string ns, .bool nb, .int .i64 nf, .int .i64 rc, .int .i64 rr, .bool rcf, .bool rrf, .int .i64 tc, .int .i64 tr, .bool tcf, .bool trf, .slice none 0 0], ck⟩] (ck + 1) #[⟨.agg #[.int .i64 c, .int .i64 r], .agg #[.int .i64 1, .float .f64 (oneF (oneF (oneF x))), .string ⟨#[]⟩, .bool false, .int .i64 0], cks⟩] (cks + 1) ckl (.slice none 0 0) (.slice (some ⟨n3, 0, none⟩) 1 cp3) := by
    rw [hW1, hw1]; constructor <;> go_simp
  have hc0 : w1.cell? ⟨w.heap.size + 1, 0, none⟩ = some (.int .i64 0) := by rw [hw1]; go_simp
  have hz0 : w1.frozen? ⟨w.heap.size + 1, 0, none⟩ = false := by rw [hw1]; go_simp
  have hc1 : W1.cell? ⟨w.heap.size, 0, none⟩ = some (.pointer (some ⟨K, 0, none⟩)) := by rw [hW1, hw1]; go_simp
  have hc2 : W1.cell? ⟨w.heap.size + 1, 0, none⟩ = some (.int .i64 0) := by rw [hW1, hw1]; go_simp
  have hc3 : W1.frozen? ⟨w.heap.size + 1, 0, none⟩ = false := by rw [hW1, hw1]; go_simp
  have ho1 : W1.oldB w.heap.size = true := by rw [hW1, hw1]; go_simp
  have ho2 : W1.oldB (w.heap.size + 1) = true := by rw [hW1, hw1]; go_simp
  have hB1 : ∀ B, B ≤ K → B ≤ S → B ≤ MG → B ≤ SH → B ≤ w.heap.size → Below B w W1 := by
    intro B b1 b2 b3 b4 b5
    rw [hW1, hw1]
    exact (by repeat (first | (with_reducible exact Below.refl _ _) | (with_reducible refine Below.drew ?_) | (with_reducible refine below_drewN ?_ _) | (with_reducible refine below_ext _ _ _ ?_ ?_) | (with_reducible refine Below.alloc ?_ ?_ _) | (with_reducible refine Below.setCell ?_ ?_ _) | (with_reducible refine below_putMap ?_ ?_ _ _) | assumption | (focus (simp; done)) | (focus (simp; omega)) | (focus omega) | refine below_tr (by assumption) (by simp <;> omega) ?_))
  have hsz1 : w.heap.size + 2 ≤ W1.heap.size := by rw [hW1, hw1]; simp; omega
  have e1 : w.heap.size + 1 ≠ S := by have := oldB_lt oS; omega
  have e2 : w.heap.size + 1 ≠ K := by have := oldB_lt oK; omega
  have e3 : w.heap.size + 1 ≠ G := by have := oldB_lt oG; omega
  have e4 : w.heap.size + 1 ≠ L := by have := oldB_lt oL; omega
  have e5 : w.heap.size + 1 ≠ G0 := by have := oldB_lt og0; omega
  have e6 : K ≠ w.heap.size + 1 := Ne.symm e2
  have e7 : K ≠ w.heap.size := by have := oldB_lt oK; omega
  clear hw1 h0 h1 hP hk0 hk1 hk2 hk3 hy0 hy1 hy2 hy3 hgc0 hgm0 hs0 hs1 hs2 hs3 hs4 hz3 hz4 hgc hgm hl hlm hsm hK hS hG0
  have hK1' := hK1
  have hS1' := hS1
  obtain ⟨hk0, hk1, hk2, hk3, hy0, hy1, hy2, hy3, oK1⟩ := hK1'
  obtain ⟨hs0, hs1, hs2, hs3, hs4, hz3, hz4, hgc, hgm, hl, hlm, hsm, oS1, oG1, oMG1, oL1, oML1, oSH1⟩ := hS1'
  dsimp only
  go_wp2_with fail
  rw [← hW1]
  clear hW1
  go_region_held3 (fun X => X.cell? ⟨w.heap.size, 0, none⟩ = some (.pointer (some ⟨K, 0, none⟩)) ∧ X.cell? ⟨K, 3, none⟩ = some (.pointer (some ⟨S, 0, none⟩))) (((try dsimp only); (repeat' apply And.intro) <;> go_simp))
    (first
      | (go_at_call 22; refine (live_Grid' S G MG (es := #[⟨.agg #[.int .i64 c, .int .i64 r], .agg #[.int .i64 1, .int .i64 1, .float .f64 (oneF x), .string s, .bool b, .int .i64 f, .int .i64 nk, .int .i64 no, .float .f64 (oneF nx), .string ns, .bool nb, .int .i64 nf, .int .i64 rc, .int .i64 rr, .bool rcf, .bool rrf, .int .i64 tc, .int .i64 tr, .bool tcf, .bool trf, .slice none 0 0], ck⟩]) (ck := ck + 1) _ ?_ ?_ ?_).mono ?_; (go_simp); (go_simp); (go_simp); rintro e w2 ⟨g, m, rfl, hG2, hB2, hg2, hm2⟩; have hg2' : W1.heap.size ≤ g := hg2; have hm2' : W1.heap.size ≤ m := hm2; clear hg2 hm2; have hB2' : Below W1.heap.size W1 w2 := (Below.refl _ W1).drew.trans hB2; clear hB2;
          have hK2 := hK1.below hB2'; have hS2 := hS1.below hB2'; have hG02 := hG1.below hB2'; obtain ⟨hk0', hk1', hk2', hk3', hy0', hy1', hy2', hy3', oK'⟩ := hK2; have hG02' := hG02; have hG2' := hG2; obtain ⟨ha0, ha1, ha2, ha3⟩ := hG02'; obtain ⟨hb0, hb1, hb2, hb3⟩ := hG2'; have ob1 : w2.oldB w.heap.size = true := old_below hB2' ho1; have ob2 : w2.oldB (w.heap.size + 1) = true := old_below hB2' ho2; have hcb : w2.cell? ⟨w.heap.size, 0, none⟩ = some (.pointer (some ⟨K, 0, none⟩)) := (cell_below hB2' ho1 0).trans hc1)
      | (go_at_call 21; refine (step_new K G0 g M0 m (es1 := #[]) (es2 := #[⟨.agg #[.int .i64 c, .int .i64 r], .agg #[.int .i64 1, .int .i64 1, .float .f64 (oneF x), .string s, .bool b, .int .i64 f, .int .i64 nk, .int .i64 no, .float .f64 (oneF nx), .string ns, .bool nb, .int .i64 nf, .int .i64 rc, .int .i64 rr, .bool rcf, .bool rrf, .int .i64 tc, .int .i64 tr, .bool tcf, .bool trf, .slice none 0 0], ck⟩]) (ck1 := ck0) (ck2 := ck + 1) (.slice none 0 0) _ ?_ ?_ ?_ ?_ ?_ ?_ ?_ ?_ ?_ ?_ ?_ AddrKeys_nil (AddrKeys_one _ _ _ _) ?_).mono ?_; (go_simp); (go_simp); (go_simp); (go_simp); (go_simp); (go_simp); (go_simp); (go_simp); (go_simp); (go_simp); (go_simp); (rfl); rintro e w3 ⟨rfl, n, cn, hcn, hn, on, hnc, E5, d5', hw3⟩;
          have hcb3 : w3.cell? ⟨w.heap.size, 0, none⟩ = some (.pointer (some ⟨K, 0, none⟩)) := (by rw [hw3]; go_simp); have hk33 : w3.cell? ⟨K, 3, none⟩ = some (.pointer (some ⟨S, 0, none⟩)) := (by rw [hw3]; go_simp); have HW3 := Lib.hid hw3; clear hw3))
  have hcd : w2.cell? ⟨w.heap.size + 1, 0, none⟩ = some (.int .i64 0) := (cell_below hB2' ho2 0).trans hc2
  have hce : w2.frozen? ⟨w.heap.size + 1, 0, none⟩ = false := (frozen_below hB2' ho2 0).trans hc3
  have hw3 := HW3.out
  have hn' : w2.heap.size ≤ n := hn
  clear hn
  obtain ⟨hs0', hs1', hs2', hs3', hs4', hz3', hz4', hgc', hgm', hl', hlm', hsm', oS', oG', oMG', oL', oML', oSH'⟩ := hS2
  have f1 : g ≠ K := by have := oldB_lt oK1; omega
  have f2 : K ≠ g := Ne.symm f1
  have f3 : w.heap.size + 1 ≠ g := by omega
  have f4 : n ≠ w.heap.size + 1 := by have := hB2'.size; omega
  have f5 : w.heap.size + 1 ≠ n := Ne.symm f4
  have hK3 : BookAt w3 K (.pointer (some ⟨g, 0, none⟩)) (.slice (some ⟨n, 0, none⟩) 1 cn) (.slice none 0 0) (.pointer (some ⟨S, 0, none⟩)) := by
    rw [hw3]; constructor <;> go_simp
  have hG3 : GridAt w3 G0 M0 #[] ck0 := by
    rw [hw3]; constructor <;> go_simp
  have hg3 : GridAt w3 g m #[⟨.agg #[.int .i64 c, .int .i64 r], .agg #[.int .i64 1, .int .i64 1, .float .f64 (oneF x), .string s, .bool b, .int .i64 f, .int .i64 nk, .int .i64 no, .float .f64 (oneF nx), .string ns, .bool nb, .int .i64 nf, .int .i64 rc, .int .i64 rr, .bool rcf, .bool rrf, .int .i64 tc, .int .i64 tr, .bool tcf, .bool trf, .slice none 0 0], ck⟩] (ck + 1) := by
    rw [hw3]; constructor <;> go_simp
  have hS3 : SheetAt w3 S G MG L ML SH #[⟨.agg #[.int .i64 c, .int .i64 r], .agg #[.int .i64 1, .int .i64 1, .float .f64 (oneF x), .string s, .bool b, .int .i64 f, .int .i64 nk, .int .i64 no, .float .f64 (oneF nx), .string ns, .bool nb, .int .i64 nf, .int .i64 rc, .int .i64 rr, .bool rcf, .bool rrf, .int .i64 tc, .int .i64 tr, .bool tcf, .bool trf, .slice none 0 0], ck⟩] (ck + 1) #[⟨.agg #[.int .i64 c, .int .i64 r], .agg #[.int .i64 1, .float .f64 (oneF (oneF (oneF x))), .string ⟨#[]⟩, .bool false, .int .i64 0], cks⟩] (cks + 1) ckl (.slice none 0 0) (.slice (some ⟨n3, 0, none⟩) 1 cp3) := by
    rw [hw3]; constructor <;> go_simp
  have hd3 : w3.cell? ⟨w.heap.size + 1, 0, none⟩ = some (.int .i64 0) := by rw [hw3]; go_simp
  have he3 : w3.frozen? ⟨w.heap.size + 1, 0, none⟩ = false := by rw [hw3]; go_simp
  have hB3 : ∀ B, B ≤ K → B ≤ S → B ≤ MG → B ≤ SH → B ≤ w.heap.size → Below B w w3 := by
    intro B b1 b2 b3 b4 b5
    refine (hB1 B b1 b2 b3 b4 b5).trans ((hB2'.mono (by omega)).trans ?_)
    have := hB2'.size
    rw [hw3]
    exact (by repeat (first | (with_reducible exact Below.refl _ _) | (with_reducible refine Below.drew ?_) | (with_reducible refine below_drewN ?_ _) | (with_reducible refine below_ext _ _ _ ?_ ?_) | (with_reducible refine Below.alloc ?_ ?_ _) | (with_reducible refine Below.setCell ?_ ?_ _) | (with_reducible refine below_putMap ?_ ?_ _ _) | assumption | (focus (simp; done)) | (focus (simp; omega)) | (focus omega) | refine below_tr (by assumption) (by simp <;> omega) ?_))
  have hsz2 := hB2'.size
  clear hw3 HW3 hsm' hlm' hl' hgm' hgc' hz4' hz3' hs4' hs3' hs2' hs1' hs0' hs0 hs1 hs2 hs3 hs4 hz3 hz4 hgc hgm hl hlm hsm hk0 hk1 hk2 hk3 hy0 hy1 hy2 hy3 hk0' hk1' hk2' hk3' hy0' hy1' hy2' hy3' hcd hce hc1 hc2 hc3 hK1 hG1 hS1 hB2' hG02 hG2 ha0 ha1 ha2 ha3 hb0 hb1 hb2 hb3 hcb
  obtain ⟨hk0, hk1, hk2, hk3, hy0, hy1, hy2, hy3, oK3⟩ := hK3
  obtain ⟨ha0, ha1, ha2, ha3⟩ := hG3
  obtain ⟨hb0, hb1, hb2, hb3⟩ := hg3
  obtain ⟨hs0, hs1, hs2, hs3, hs4, hz3, hz4, hgc, hgm, hl, hlm, hsm, oS3, oG3, oMG3, oL3, oML3, oSH3⟩ := hS3
  go_wp2_with fail
  go_region_held3 (fun X => X.cell? ⟨w.heap.size + 1, 0, none⟩ = some (.int .i64 0)) (((try dsimp only); (repeat' apply And.intro) <;> go_simp)) (fail)
  all_goals
    go_wp2_with fail
    refine leaves_cons (f := 19) (by simp) (by first | rfl | simp [go_sem]) ?_
    refine (Do1_idle _ _ _ .returning _ ?_).mono ?_
    · go_simp
    rintro e u' w'' ⟨rfl, rfl, rfl⟩
    refine ⟨_, ?_, rfl, ?_, g, m, n, cn, .slice (some ⟨n3, 0, none⟩) 1 cp3, hcn, (by omega), (by omega), (by omega), ?_, ?_, ?_, ?_, ?_, ?_⟩
    · simp [results, Tryz.results5, go_sem, hd3]
    · intro B b1 b2 b3 b4 b5
      refine (hB3 B b1 b2 b3 b4 b5).trans ?_
      exact (by repeat (first | (with_reducible exact Below.refl _ _) | (with_reducible refine Below.drew ?_) | (with_reducible refine below_drewN ?_ _) | (with_reducible refine below_ext _ _ _ ?_ ?_) | (with_reducible refine Below.alloc ?_ ?_ _) | (with_reducible refine Below.setCell ?_ ?_ _) | (with_reducible refine below_putMap ?_ ?_ _ _) | assumption | (focus (simp; done)) | (focus (simp; omega)) | (focus omega) | refine below_tr (by assumption) (by simp <;> omega) ?_))
    · constructor <;> go_simp
    · go_simp
    · go_simp
    · constructor <;> go_simp
    · constructor <;> go_simp
    · constructor <;> go_simp
end Go.Proofs.YtencimimccoofaaGreatDoor
