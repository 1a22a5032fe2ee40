/- A book's batch that changes nothing: one put. -/
import Derived.Test.YtencimimccoofaaGreatDoor16s
import Derived.Test.YtencimimccoofaaGreatDoor23
import Derived.Test.YtencimimccoofaaGreatDoor24
namespace Go.Proofs.YtencimimccoofaaGreatDoor
set_option linter.all false
open Go.RowKit Go.Shelf

set_option maxHeartbeats 0 in
set_option maxRecDepth 20000 in
theorem Do_same (K S G MG L ML SH g m P cp hh cn : Nat) {ckg ck cks ckl : Nat} (c r : Int) (x : Nat) (s : ByteArray) (b : Bool) (f : Int) (nk no : Int) (nx : Nat) (ns : ByteArray) (nb : Bool) (nf : Int) (rc rr : Int) (rcf rrf : Bool) (tc tr : Int) (tcf trf : Bool) (k1 : Int) (x1 : Nat) (s1 : ByteArray) (b1 : Bool) (f1 : Int) (nk1 no1 : Int) (nx1 : Nat) (ns1 : ByteArray) (nb1 : Bool) (nf1 : Int) (rc1 rr1 : Int) (rcf1 rrf1 : Bool) (tc1 tr1 : Int) (tcf1 trf1 : Bool) (q1 : Int) (q2 : Nat) (q3 : ByteArray) (q4 : Bool) (q5 : Int) (b0 bs : Nat) (v3 v4 vn : Value) (w : World) (ha : addrValid c r = true)
    (hv : contOk 1 1 x s b f (noNode nk no nx ns nb nf rc rr rcf rrf tc tr tcf trf 0) = true) (hso : (valOrd q1 q2 q3 q4 q5 1 (oneF (oneF (oneF x))) ⟨#[]⟩ false 0 == 0) = true) (hsv : (valOrd k1 x1 s1 b1 f1 1 (oneF x) s b f == 0) = true) (hb0 : b0 < ckg)
    (hK : BookAt w K (.pointer (some ⟨g, 0, none⟩)) (.slice (some ⟨hh, 0, none⟩) 1 cn) (.slice none 0 0) (.pointer (some ⟨S, 0, none⟩)))
    (hG0 : GridAt w g m #[⟨.agg #[.int .i64 c, .int .i64 r], .agg #[.int .i64 1, .int .i64 k1, .float .f64 x1, .string s1, .bool b1, .int .i64 f1, .int .i64 nk1, .int .i64 no1, .float .f64 nx1, .string ns1, .bool nb1, .int .i64 nf1, .int .i64 rc1, .int .i64 rr1, .bool rcf1, .bool rrf1, .int .i64 tc1, .int .i64 tr1, .bool tcf1, .bool trf1, .slice none 0 0], b0⟩] ckg) (hS : SheetAt w S G MG L ML SH #[⟨.agg #[.int .i64 c, .int .i64 r], .agg #[.int .i64 1, .int .i64 k1, .float .f64 x1, .string s1, .bool b1, .int .i64 f1, .int .i64 nk1, .int .i64 no1, .float .f64 nx1, .string ns1, .bool nb1, .int .i64 nf1, .int .i64 rc1, .int .i64 rr1, .bool rcf1, .bool rrf1, .int .i64 tc1, .int .i64 tr1, .bool tcf1, .bool trf1, .slice none 0 0], b0⟩] ck #[⟨.agg #[.int .i64 c, .int .i64 r], .agg #[.int .i64 q1, .float .f64 q2, .string q3, .bool q4, .int .i64 q5], bs⟩] cks ckl v3 v4) (hn : w.cell? ⟨hh, 0, none⟩ = some vn) (on : w.oldB hh = true)
    (h0 : w.hasC P 23 = true) (h1 : w.cellsAt P 0 23 = #[.int .i64 c, .int .i64 r, .int .i64 1, .int .i64 1, .float .f64 x, .string s, .bool b, .int .i64 f, .int .i64 nk, .int .i64 no, .float .f64 nx, .string ns, .bool nb, .int .i64 nf, .int .i64 rc, .int .i64 rr, .bool rcf, .bool rrf, .int .i64 tc, .int .i64 tr, .bool tcf, .bool trf, .slice none 0 0]) (hP : w.oldB P = true)
    (d1 : S ≠ G) (d2 : S ≠ L) (d3 : S ≠ P) (d4 : SH ≠ ML) (d5 : MG ≠ ML) (d6 : SH ≠ MG) (d7 : MG ≠ SH) (d8 : S ≠ K) (d9 : S ≠ g) (d10 : MG ≠ m) (d12 : K ≠ S) (d16 : S ≠ hh) :
    Calls Tryz.prog 5 #[.pointer (some ⟨K, 0, none⟩), .slice (some ⟨P, 0, none⟩) 1 cp] w
      fun e w' => e = .returned (.tuple #[.int .i64 0, .int .i64 0]) ∧ (∀ B, B ≤ S → B ≤ MG → B ≤ w.heap.size → Below B w w') ∧
        BookAt w' K (.pointer (some ⟨g, 0, none⟩)) (.slice (some ⟨hh, 0, none⟩) 1 cn) (.slice none 0 0) (.pointer (some ⟨S, 0, none⟩)) ∧
        w'.cell? ⟨hh, 0, none⟩ = some vn ∧ w'.oldB hh = true ∧ (∀ G1 M1 ck1, S ≠ G1 → MG ≠ M1 → GridAt w G1 M1 #[] ck1 → GridAt w' G1 M1 #[] ck1) ∧
        SheetAt w' S G MG L ML SH #[⟨.agg #[.int .i64 c, .int .i64 r], .agg #[.int .i64 1, .int .i64 1, .float .f64 (oneF x), .string s, .bool b, .int .i64 f, .int .i64 nk, .int .i64 no, .float .f64 (oneF nx), .string ns, .bool nb, .int .i64 nf, .int .i64 rc, .int .i64 rr, .bool rcf, .bool rrf, .int .i64 tc, .int .i64 tr, .bool tcf, .bool trf, .slice none 0 0], b0⟩] ck #[⟨.agg #[.int .i64 c, .int .i64 r], .agg #[.int .i64 q1, .float .f64 q2, .string q3, .bool q4, .int .i64 q5], bs⟩] cks ckl (.slice none 0 0) (.slice none 0 0) := by
  have hK' := hK
  have hS' := hS
  have hG0' := hG0
  obtain ⟨hk0, hk1, hk2, hk3, hy0, hy1, hy2, hy3, oK⟩ := hK'
  obtain ⟨hgc0, hgm0, og0, om0⟩ := hG0'
  obtain ⟨hs0, hs1, hs2, hs3, hs4, hz3, hz4, hgc, hgm, hl, hlm, hsm, oS, oG, oMG, oL, oML, oSH⟩ := hS'
  have hmf : ∀ (fn : Fn) (first cap : Array Value) (w : World), (Instr.makeFunc fn first cap).run Tryz.prog w = .ok (.func fn first cap) w := fun _ _ _ _ => rfl
  go_enter_defers Tryz.func5, Tryz.ntmps5
  go_wp2_with fail
  go_at_call 20
  refine (Set_old S G MG L ML SH P cp (ck := ck) (cks := cks) (ckl := ckl) c r x s b f nk no nx ns nb nf rc rr rcf rrf tc tr tcf trf k1 x1 s1 b1 f1 nk1 no1 nx1 ns1 nb1 nf1 rc1 rr1 rcf1 rrf1 tc1 tr1 tcf1 trf1 q1 q2 q3 q4 q5 b0 bs v3 v4 _ ha hv ?_ ?_ ?_ ?_ ?_ ?_ ?_ ?_ ?_ ?_ ?_ ?_ ?_ hso ?_ ?_ ?_ ?_ ?_ d4 d5 ?_ ?_ ?_ d1 d2 d3 d6 d7).mono ?_
  iterate 21 (focus (go_simp; done))
  rintro e w1 ⟨rfl, E3, d3', hw1⟩
  obtain ⟨W1, hW1⟩ : ∃ W, W = w1.setCell ⟨w.heap.size + 1, 0, none⟩ (.int .i64 0) := ⟨_, rfl⟩
  have hK1 : BookAt W1 K (.pointer (some ⟨g, 0, none⟩)) (.slice (some ⟨hh, 0, none⟩) 1 cn) (.slice none 0 0) (.pointer (some ⟨S, 0, none⟩)) := by
    rw [hW1, hw1]; constructor <;> go_simp
  have hG1 : GridAt W1 g m #[⟨.agg #[.int .i64 c, .int .i64 r], .agg #[.int .i64 1, .int .i64 k1, .float .f64 x1, .string s1, .bool b1, .int .i64 f1, .int .i64 nk1, .int .i64 no1, .float .f64 nx1, .string ns1, .bool nb1, .int .i64 nf1, .int .i64 rc1, .int .i64 rr1, .bool rcf1, .bool rrf1, .int .i64 tc1, .int .i64 tr1, .bool tcf1, .bool trf1, .slice none 0 0], b0⟩] ckg := by
    rw [hW1, hw1]; constructor <;> go_simp
  have hS1 : SheetAt W1 S G MG L ML SH #[⟨.agg #[.int .i64 c, .int .i64 r], .agg #[.int .i64 1, .int .i64 1, .float .f64 (oneF x), .string s, .bool b, .int .i64 f, .int .i64 nk, .int .i64 no, .float .f64 (oneF nx), .string ns, .bool nb, .int .i64 nf, .int .i64 rc, .int .i64 rr, .bool rcf, .bool rrf, .int .i64 tc, .int .i64 tr, .bool tcf, .bool trf, .slice none 0 0], b0⟩] ck #[⟨.agg #[.int .i64 c, .int .i64 r], .agg #[.int .i64 q1, .float .f64 q2, .string q3, .bool q4, .int .i64 q5], bs⟩] cks ckl (.slice none 0 0) (.slice none 0 0) := by
    rw [hW1, hw1]; constructor <;> go_simp
  have hn1 : W1.cell? ⟨hh, 0, none⟩ = some vn := by rw [hW1, hw1]; go_simp
  have on1 : W1.oldB hh = true := by rw [hW1, hw1]; go_simp
  have hGs : ∀ G1 M1 ck1, S ≠ G1 → MG ≠ M1 → GridAt w G1 M1 #[] ck1 → GridAt W1 G1 M1 #[] ck1 := by
    intro G1 M1 ck1 z1 z2 hz
    obtain ⟨p1, p2, p3, p4⟩ := hz
    have z3 : w.heap.size + 1 ≠ G1 := by have := oldB_lt p3; omega
    rw [hW1, hw1]; constructor <;> go_simp
  have hc0 : w1.cell? ⟨w.heap.size + 1, 0, none⟩ = some (.int .i64 0) := by rw [hw1]; go_simp
  have hz0 : w1.frozen? ⟨w.heap.size + 1, 0, none⟩ = false := by rw [hw1]; go_simp
  have hc1 : W1.cell? ⟨w.heap.size, 0, none⟩ = some (.pointer (some ⟨K, 0, none⟩)) := by rw [hW1, hw1]; go_simp
  have hc2 : W1.cell? ⟨w.heap.size + 1, 0, none⟩ = some (.int .i64 0) := by rw [hW1, hw1]; go_simp
  have hc3 : W1.frozen? ⟨w.heap.size + 1, 0, none⟩ = false := by rw [hW1, hw1]; go_simp
  have ho1 : W1.oldB w.heap.size = true := by rw [hW1, hw1]; go_simp
  have ho2 : W1.oldB (w.heap.size + 1) = true := by rw [hW1, hw1]; go_simp
  have hB1 : ∀ B, B ≤ S → B ≤ MG → B ≤ w.heap.size → Below B w W1 := by
    intro B b1 b2 b3
    rw [hW1, hw1]
    exact (by repeat (first | (with_reducible exact Below.refl _ _) | (with_reducible refine Below.drew ?_) | (with_reducible refine below_drewN ?_ _) | (with_reducible refine below_ext _ _ _ ?_ ?_) | (with_reducible refine Below.alloc ?_ ?_ _) | (with_reducible refine Below.setCell ?_ ?_ _) | (with_reducible refine below_putMap ?_ ?_ _ _) | assumption | (focus (simp; done)) | (focus (simp; omega)) | (focus omega) | refine below_tr (by assumption) (by simp <;> omega) ?_))
  have hsz1 : w.heap.size + 2 ≤ W1.heap.size := by rw [hW1, hw1]; simp; omega
  have e1 : w.heap.size + 1 ≠ S := by have := oldB_lt oS; omega
  have e2 : w.heap.size + 1 ≠ K := by have := oldB_lt oK; omega
  have e3 : w.heap.size + 1 ≠ G := by have := oldB_lt oG; omega
  have e4 : w.heap.size + 1 ≠ L := by have := oldB_lt oL; omega
  have e5 : w.heap.size + 1 ≠ g := by have := oldB_lt og0; omega
  have e8 : w.heap.size + 1 ≠ hh := by have := oldB_lt on; omega
  have e6 : K ≠ w.heap.size + 1 := Ne.symm e2
  have e7 : K ≠ w.heap.size := by have := oldB_lt oK; omega
  clear hw1 h0 h1 hP hn on hk0 hk1 hk2 hk3 hy0 hy1 hy2 hy3 hgc0 hgm0 hs0 hs1 hs2 hs3 hs4 hz3 hz4 hgc hgm hl hlm hsm hK hS hG0
  have hK1' := hK1
  have hS1' := hS1
  obtain ⟨hk0, hk1, hk2, hk3, hy0, hy1, hy2, hy3, oK1⟩ := hK1'
  obtain ⟨hs0, hs1, hs2, hs3, hs4, hz3, hz4, hgc, hgm, hl, hlm, hsm, oS1, oG1, oMG1, oL1, oML1, oSH1⟩ := hS1'
  dsimp only
  go_wp2_with fail
  rw [← hW1]
  clear hW1
  go_region_held3 (fun X => X.cell? ⟨w.heap.size, 0, none⟩ = some (.pointer (some ⟨K, 0, none⟩)) ∧ X.cell? ⟨K, 3, none⟩ = some (.pointer (some ⟨S, 0, none⟩))) (((try dsimp only); (repeat' apply And.intro) <;> go_simp))
    (first
      | (go_at_call 22; refine (live_Grid' S G MG (es := #[⟨.agg #[.int .i64 c, .int .i64 r], .agg #[.int .i64 1, .int .i64 1, .float .f64 (oneF x), .string s, .bool b, .int .i64 f, .int .i64 nk, .int .i64 no, .float .f64 (oneF nx), .string ns, .bool nb, .int .i64 nf, .int .i64 rc, .int .i64 rr, .bool rcf, .bool rrf, .int .i64 tc, .int .i64 tr, .bool tcf, .bool trf, .slice none 0 0], b0⟩]) (ck := ck) _ ?_ ?_ ?_).mono ?_; (go_simp); (go_simp); (go_simp); rintro e w2 ⟨g2, m2, rfl, hG2, hB2, hg2, hm2⟩; have hB2' : Below W1.heap.size W1 w2 := (Below.refl _ W1).drew.trans hB2; clear hB2 hg2 hm2;
          have hK2 := hK1.below hB2'; have hG02 := hG1.below hB2'; obtain ⟨hk0', hk1', hk2', hk3', hy0', hy1', hy2', hy3', oK'⟩ := hK2; have hG02' := hG02; have hG2' := hG2; obtain ⟨ha0, ha1, ha2, ha3⟩ := hG02'; obtain ⟨hb0', hb1, hb2, hb3⟩ := hG2'; have ob1 : w2.oldB w.heap.size = true := old_below hB2' ho1; have hcb : w2.cell? ⟨w.heap.size, 0, none⟩ = some (.pointer (some ⟨K, 0, none⟩)) := (cell_below hB2' ho1 0).trans hc1)
      | (go_at_call 21; refine (step_same K g g2 m m2 c r k1 x1 s1 b1 f1 nk1 no1 nx1 ns1 nb1 nf1 rc1 rr1 rcf1 rrf1 tc1 tr1 tcf1 trf1 1 (oneF x) s b f nk no (oneF nx) ns nb nf rc rr rcf rrf tc tr tcf trf b0 ckg (es2 := #[⟨.agg #[.int .i64 c, .int .i64 r], .agg #[.int .i64 1, .int .i64 1, .float .f64 (oneF x), .string s, .bool b, .int .i64 f, .int .i64 nk, .int .i64 no, .float .f64 (oneF nx), .string ns, .bool nb, .int .i64 nf, .int .i64 rc, .int .i64 rr, .bool rcf, .bool rrf, .int .i64 tc, .int .i64 tr, .bool tcf, .bool trf, .slice none 0 0], b0⟩]) (ck2 := ck) _ ?_ ?_ ?_ ?_ ?_ ?_ ?_ hb0 ?_ ?_ (AddrKeys_one _ _ _ _) rfl (lookE_one _ _ _ _) hsv).mono ?_; (go_simp); (go_simp); (go_simp); (go_simp); (go_simp); (go_simp); (go_simp); (go_simp); (go_simp); rintro e w3 ⟨rfl, hB3⟩;
          have hcb3 : w3.cell? ⟨w.heap.size, 0, none⟩ = some (.pointer (some ⟨K, 0, none⟩)) := ((cell_below hB3 ob1 0).trans hcb); have hk33 : w3.cell? ⟨K, 3, none⟩ = some (.pointer (some ⟨S, 0, none⟩)) := ((cell_below hB3 oK' 3).trans hk3')))
  have hB13 : Below W1.heap.size W1 w3 := hB2'.trans (Below.mono (show Below w2.heap.size w2 w3 from hB3) hB2'.size)
  have hK3 := hK1.below hB13
  have hS3 := hS1.below hB13
  have hn3 : w3.cell? ⟨hh, 0, none⟩ = some vn := (cell_below hB13 on1 0).trans hn1
  have on3 : w3.oldB hh = true := old_below hB13 on1
  have hGs3 : ∀ G1 M1 ck1, S ≠ G1 → MG ≠ M1 → GridAt w G1 M1 #[] ck1 → GridAt w3 G1 M1 #[] ck1 := fun G1 M1 ck1 z1 z2 hz => (hGs G1 M1 ck1 z1 z2 hz).below hB13
  have hd3 : w3.cell? ⟨w.heap.size + 1, 0, none⟩ = some (.int .i64 0) := (cell_below hB13 ho2 0).trans hc2
  have he3 : w3.frozen? ⟨w.heap.size + 1, 0, none⟩ = false := (frozen_below hB13 ho2 0).trans hc3
  have hB3' : ∀ B, B ≤ S → B ≤ MG → B ≤ w.heap.size → Below B w w3 := by
    intro B b1 b2 b3
    exact (hB1 B b1 b2 b3).trans (hB13.mono (by omega))
  clear hs0 hs1 hs2 hs3 hs4 hz3 hz4 hgc hgm hl hlm hsm hk0 hk1 hk2 hk3 hy0 hy1 hy2 hy3 hk0' hk1' hk2' hk3' hy0' hy1' hy2' hy3' hc1 hc2 hc3 hK1 hG1 hS1 hG02 hG2 ha0 ha1 ha2 ha3 hb0' hb1 hb2 hb3 hcb hn1 on1 hGs hB13 hB3 hB2'
  obtain ⟨hk0, hk1, hk2, hk3, hy0, hy1, hy2, hy3, oK3⟩ := hK3
  obtain ⟨hs0, hs1, hs2, hs3, hs4, hz3, hz4, hgc, hgm, hl, hlm, hsm, oS3, oG3, oMG3, oL3, oML3, oSH3⟩ := hS3
  go_wp2_with fail
  go_region_held3 (fun X => X.cell? ⟨w.heap.size + 1, 0, none⟩ = some (.int .i64 0)) (((try dsimp only); (repeat' apply And.intro) <;> go_simp)) (fail)
  all_goals
    go_wp2_with fail
    refine leaves_cons (f := 19) (by simp) (by first | rfl | simp [go_sem]) ?_
    refine (Do1_idle _ _ _ .returning _ ?_).mono ?_
    · go_simp
    rintro e u' w'' ⟨rfl, rfl, rfl⟩
    refine ⟨_, ?_, rfl, ?_, ?_, ?_, ?_, ?_, ?_⟩
    · simp [results, Tryz.results5, go_sem, hd3]
    · intro B b1 b2 b3
      refine (hB3' B b1 b2 b3).trans ?_
      exact (by repeat (first | (with_reducible exact Below.refl _ _) | (with_reducible refine Below.drew ?_) | (with_reducible refine below_drewN ?_ _) | (with_reducible refine below_ext _ _ _ ?_ ?_) | (with_reducible refine Below.alloc ?_ ?_ _) | (with_reducible refine Below.setCell ?_ ?_ _) | (with_reducible refine below_putMap ?_ ?_ _ _) | assumption | (focus (simp; done)) | (focus (simp; omega)) | (focus omega) | refine below_tr (by assumption) (by simp <;> omega) ?_))
    · constructor <;> go_simp
    · go_simp
    · go_simp
    · intro G1 M1 ck1 z1 z2 hz
      have z3 : w.heap.size + 1 ≠ G1 := by have := oldB_lt hz.og; omega
      obtain ⟨p1, p2, p3, p4⟩ := hGs3 G1 M1 ck1 z1 z2 hz
      constructor <;> go_simp
    · constructor <;> go_simp
end Go.Proofs.YtencimimccoofaaGreatDoor
