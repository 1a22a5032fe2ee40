/- A batch of one is put into a cell that has that content already. -/
import Derived.Test.YtencimimccoofaaGreatDoor15d
import Derived.Deep.RegionWith
namespace Go.Proofs.YtencimimccoofaaGreatDoor
set_option linter.all false
open Go.RowKit
attribute [local go_sem ↓] Go.wp_at_zero Go.wp_at_succ

theorem updE_one (ck b0 : Nat) (c r : Int) (v0 v : Value) : updE #[{ key := .agg #[.int .i64 c, .int .i64 r], val := v0, born := b0 }] ck c r v = (#[{ key := .agg #[.int .i64 c, .int .i64 r], val := v, born := b0 }], ck) := by
  simp [updE, idxE, kEq]
attribute [go_sem] updE_one
set_option maxHeartbeats 0 in
set_option maxRecDepth 20000 in
theorem Set_old (S G MG L ML SH P cp : Nat) {ck cks ckl : Nat} (c r : Int) (x : Nat) (s : ByteArray) (b : Bool) (f : Int) (nk no : Int) (nx : Nat) (ns : ByteArray) (nb : Bool) (nf : Int) (rc rr : Int) (rcf rrf : Bool) (tc tr : Int) (tcf trf : Bool) (k1 : Int) (x1 : Nat) (s1 : ByteArray) (b1 : Bool) (f1 : Int) (nk1 no1 : Int) (nx1 : Nat) (ns1 : ByteArray) (nb1 : Bool) (nf1 : Int) (rc1 rr1 : Int) (rcf1 rrf1 : Bool) (tc1 tr1 : Int) (tcf1 trf1 : Bool) (q1 : Int) (q2 : Nat) (q3 : ByteArray) (q4 : Bool) (q5 : Int) (b0 bs : Nat) (v3 v4 : Value) (w : World) (ha : addrValid c r = true)
    (hv : contOk 1 1 x s b f (noNode nk no nx ns nb nf rc rr rcf rrf tc tr tcf trf 0) = true)
    (hs0 : w.cell? ⟨S, 0, none⟩ = some (.pointer (some ⟨G, 0, none⟩))) (hs1 : w.cell? ⟨S, 1, none⟩ = some (.pointer (some ⟨L, 0, none⟩))) (hs2 : w.cell? ⟨S, 2, none⟩ = some (.map (some SH)))
    (hs3 : w.cell? ⟨S, 3, none⟩ = some v3) (hs4 : w.cell? ⟨S, 4, none⟩ = some v4) (hS : w.oldB S = true) (hz3 : w.frozen? ⟨S, 3, none⟩ = false) (hz4 : w.frozen? ⟨S, 4, none⟩ = false)
    (hg : w.cell? ⟨G, 0, none⟩ = some (.map (some MG))) (hgl : w.oldB G = true) (hm : w.mapAt MG = some (#[⟨.agg #[.int .i64 c, .int .i64 r], .agg #[.int .i64 1, .int .i64 k1, .float .f64 x1, .string s1, .bool b1, .int .i64 f1, .int .i64 nk1, .int .i64 no1, .float .f64 nx1, .string ns1, .bool nb1, .int .i64 nf1, .int .i64 rc1, .int .i64 rr1, .bool rcf1, .bool rrf1, .int .i64 tc1, .int .i64 tr1, .bool tcf1, .bool trf1, .slice none 0 0], b0⟩], ck)) (hml : w.oldB MG = true)
    (hsm : w.mapAt SH = some (#[{ key := .agg #[.int .i64 c, .int .i64 r], val := .agg #[.int .i64 q1, .float .f64 q2, .string q3, .bool q4, .int .i64 q5], born := bs }], cks)) (hso : (valOrd q1 q2 q3 q4 q5 1 (oneF (oneF (oneF x))) ⟨#[]⟩ false 0 == 0) = true) (hsml : w.oldB SH = true)
    (hl : w.cell? ⟨L, 0, none⟩ = some (.map (some ML))) (hL : w.oldB L = true) (hlm : w.mapAt ML = some (#[], ckl)) (hML : w.oldB ML = true) (hne : SH ≠ ML) (hne2 : MG ≠ ML)
    (h0 : w.hasC P 23 = true) (h1 : w.cellsAt P 0 23 = #[.int .i64 c, .int .i64 r, .int .i64 1, .int .i64 1, .float .f64 x, .string s, .bool b, .int .i64 f, .int .i64 nk, .int .i64 no, .float .f64 nx, .string ns, .bool nb, .int .i64 nf, .int .i64 rc, .int .i64 rr, .bool rcf, .bool rrf, .int .i64 tc, .int .i64 tr, .bool tcf, .bool trf, .slice none 0 0]) (hP : w.oldB P = true)
    (hSG : S ≠ G) (hSL : S ≠ L) (hSP : S ≠ P) (hGM : SH ≠ MG) (hGM' : MG ≠ SH) :
    Calls Tryz.prog 20 #[.pointer (some ⟨S, 0, none⟩), .slice (some ⟨P, 0, none⟩) 1 cp] w
      fun e w' => e = .returned (.tuple #[.int .i64 0, .int .i64 0]) ∧ ∃ E d, w' = (((w.setCell ⟨S, 3, none⟩ (.slice none 0 0)).setCell ⟨S, 4, none⟩ (.slice none 0 0)).putMap MG (#[{ key := .agg #[.int .i64 c, .int .i64 r], val := .agg #[.int .i64 1, .int .i64 1, .float .f64 (oneF x), .string s, .bool b, .int .i64 f, .int .i64 nk, .int .i64 no, .float .f64 (oneF nx), .string ns, .bool nb, .int .i64 nf, .int .i64 rc, .int .i64 rr, .bool rcf, .bool rrf, .int .i64 tc, .int .i64 tr, .bool tcf, .bool trf, .slice none 0 0], born := b0 }]) ck).ext E d := by
  have hk2 : ((1 : Int) == 2) = false := rfl
  have hsz : (((#[⟨.agg #[.int .i64 c, .int .i64 r], .agg #[.int .i64 1, .int .i64 k1, .float .f64 x1, .string s1, .bool b1, .int .i64 f1, .int .i64 nk1, .int .i64 no1, .float .f64 nx1, .string ns1, .bool nb1, .int .i64 nf1, .int .i64 rc1, .int .i64 rr1, .bool rcf1, .bool rrf1, .int .i64 tc1, .int .i64 tr1, .bool tcf1, .bool trf1, .slice none 0 0], b0⟩] : Array MapEntry).size : Nat) : Int) = 1 := rfl
  have hak : AddrKeys #[⟨.agg #[.int .i64 c, .int .i64 r], .agg #[.int .i64 1, .int .i64 k1, .float .f64 x1, .string s1, .bool b1, .int .i64 f1, .int .i64 nk1, .int .i64 no1, .float .f64 nx1, .string ns1, .bool nb1, .int .i64 nf1, .int .i64 rc1, .int .i64 rr1, .bool rcf1, .bool rrf1, .int .i64 tc1, .int .i64 tr1, .bool tcf1, .bool trf1, .slice none 0 0], b0⟩] := AddrKeys_one c r _ _
  have hlk : lookE #[⟨.agg #[.int .i64 c, .int .i64 r], .agg #[.int .i64 1, .int .i64 k1, .float .f64 x1, .string s1, .bool b1, .int .i64 f1, .int .i64 nk1, .int .i64 no1, .float .f64 nx1, .string ns1, .bool nb1, .int .i64 nf1, .int .i64 rc1, .int .i64 rr1, .bool rcf1, .bool rrf1, .int .i64 tc1, .int .i64 tr1, .bool tcf1, .bool trf1, .slice none 0 0], b0⟩] c r = some (.agg #[.int .i64 1, .int .i64 k1, .float .f64 x1, .string s1, .bool b1, .int .i64 f1, .int .i64 nk1, .int .i64 no1, .float .f64 nx1, .string ns1, .bool nb1, .int .i64 nf1, .int .i64 rc1, .int .i64 rr1, .bool rcf1, .bool rrf1, .int .i64 tc1, .int .i64 tr1, .bool tcf1, .bool trf1, .slice none 0 0]) := lookE_one c r _ _
  have hfull : lookE #[⟨.agg #[.int .i64 c, .int .i64 r], .agg #[.int .i64 1, .int .i64 k1, .float .f64 x1, .string s1, .bool b1, .int .i64 f1, .int .i64 nk1, .int .i64 no1, .float .f64 nx1, .string ns1, .bool nb1, .int .i64 nf1, .int .i64 rc1, .int .i64 rr1, .bool rcf1, .bool rrf1, .int .i64 tc1, .int .i64 tr1, .bool tcf1, .bool trf1, .slice none 0 0], b0⟩] c r = none → (#[⟨.agg #[.int .i64 c, .int .i64 r], .agg #[.int .i64 1, .int .i64 k1, .float .f64 x1, .string s1, .bool b1, .int .i64 f1, .int .i64 nk1, .int .i64 no1, .float .f64 nx1, .string ns1, .bool nb1, .int .i64 nf1, .int .i64 rc1, .int .i64 rr1, .bool rcf1, .bool rrf1, .int .i64 tc1, .int .i64 tr1, .bool tcf1, .bool trf1, .slice none 0 0], b0⟩] : Array MapEntry).size < 4096 := fun h => by rw [hlk] at h; cases h
  have hleaf : lookE #[⟨.agg #[.int .i64 c, .int .i64 r], .agg #[.int .i64 1, .int .i64 k1, .float .f64 x1, .string s1, .bool b1, .int .i64 f1, .int .i64 nk1, .int .i64 no1, .float .f64 nx1, .string ns1, .bool nb1, .int .i64 nf1, .int .i64 rc1, .int .i64 rr1, .bool rcf1, .bool rrf1, .int .i64 tc1, .int .i64 tr1, .bool tcf1, .bool trf1, .slice none 0 0], b0⟩] c r = none ∨ ∃ cs : Array Value, lookE #[⟨.agg #[.int .i64 c, .int .i64 r], .agg #[.int .i64 1, .int .i64 k1, .float .f64 x1, .string s1, .bool b1, .int .i64 f1, .int .i64 nk1, .int .i64 no1, .float .f64 nx1, .string ns1, .bool nb1, .int .i64 nf1, .int .i64 rc1, .int .i64 rr1, .bool rcf1, .bool rrf1, .int .i64 tc1, .int .i64 tr1, .bool tcf1, .bool trf1, .slice none 0 0], b0⟩] c r = some (.agg cs) ∧ cs.size = 21 ∧ allOne cs.toList = true := .inr ⟨_, hlk, rfl, rfl⟩
  have hmf : ∀ (fn : Fn) (first cap : Array Value) (w : World), (Instr.makeFunc fn first cap).run Tryz.prog w = .ok (.func fn first cap) w := fun _ _ _ _ => rfl
  go_enter_defers Tryz.func20, Tryz.ntmps20
  go_wp2_with (first | (go_at_call 32; refine (fault_old S G MG P cp (es := #[⟨.agg #[.int .i64 c, .int .i64 r], .agg #[.int .i64 1, .int .i64 k1, .float .f64 x1, .string s1, .bool b1, .int .i64 f1, .int .i64 nk1, .int .i64 no1, .float .f64 nx1, .string ns1, .bool nb1, .int .i64 nf1, .int .i64 rc1, .int .i64 rr1, .bool rcf1, .bool rrf1, .int .i64 tc1, .int .i64 tr1, .bool tcf1, .bool trf1, .slice none 0 0], b0⟩]) (ck := ck) c r 1 x s b f nk no nx ns nb nf rc rr rcf rrf tc tr tcf trf k1 x1 s1 b1 f1 nk1 no1 nx1 ns1 nb1 nf1 rc1 rr1 rcf1 rrf1 tc1 tr1 tcf1 trf1 _ ha hk2 hv hsz (by go_simp) (by go_simp) (by go_simp) (by go_simp) (by go_simp) (by go_simp) hak hlk (by go_simp) (by go_simp) (by go_simp)).mono ?_; rintro e w' ⟨rfl, hbel⟩; obtain ⟨EF, dF, rfl⟩ := ext_of_below hbel; clear hbel))
  refine wp_loop_rounds 2 ?_
  rw [rounds_succ]
  go_wp2_with fail
  refine wp_region_noPanic ?_
  go_region_with (first | (go_at_call 35; refine (grid_Get_some G MG (es := #[⟨.agg #[.int .i64 c, .int .i64 r], .agg #[.int .i64 1, .int .i64 k1, .float .f64 x1, .string s1, .bool b1, .int .i64 f1, .int .i64 nk1, .int .i64 no1, .float .f64 nx1, .string ns1, .bool nb1, .int .i64 nf1, .int .i64 rc1, .int .i64 rr1, .bool rcf1, .bool rrf1, .int .i64 tc1, .int .i64 tr1, .bool tcf1, .bool trf1, .slice none 0 0], b0⟩]) (ck := ck) c r 1 k1 x1 s1 b1 f1 nk1 no1 nx1 ns1 nb1 nf1 rc1 rr1 rcf1 rrf1 tc1 tr1 tcf1 trf1 _ (by go_simp) (by go_simp) (by go_simp) (by go_simp) hak hlk).mono ?_; rintro e w' ⟨rfl, hbel⟩; obtain ⟨E1, d1, rfl⟩ := ext_of_below hbel; clear hbel))
  all_goals refine NoPanic.normal ?_
  all_goals
    go_wp2_with fail
    rw [rounds_succ]
    go_wp2_with fail
    refine wp_loop_rounds 3 ?_
    rw [rounds_succ]
    go_wp2_with fail
    refine wp_loop_rounds 2 ?_
    rw [rounds_succ]
    go_wp2_with fail
    rw [rounds_succ]
    go_wp2_with fail
    rw [rounds_succ]
    go_wp2_with fail
    refine wp_loop_rounds 2 ?_
    rw [rounds_succ]
    go_wp2_with fail
  all_goals
    go_at_call 34
    refine (lay_plain S G MG L ML (es := #[⟨.agg #[.int .i64 c, .int .i64 r], .agg #[.int .i64 1, .int .i64 k1, .float .f64 x1, .string s1, .bool b1, .int .i64 f1, .int .i64 nk1, .int .i64 no1, .float .f64 nx1, .string ns1, .bool nb1, .int .i64 nf1, .int .i64 rc1, .int .i64 rr1, .bool rcf1, .bool rrf1, .int .i64 tc1, .int .i64 tr1, .bool tcf1, .bool trf1, .slice none 0 0], b0⟩]) (ck := ck) (ckl := ckl) c r 1 x s b f nk no nx ns nb nf rc rr rcf rrf tc tr tcf trf _ ha hk2 hv hfull ?_ ?_ ?_ ?_ ?_ ?_ ?_ hak hleaf ?_ ?_ ?_ ?_ ?_).mono ?_
    iterate 12 (focus (go_simp; done))
    rintro e w' ⟨rfl, E2, d2, rfl⟩
    go_wp2_with fail
    rw [rounds_succ]
    go_wp2_with fail
    rw [rounds_succ]
    go_wp2_with fail
    refine wp_loop_rounds 2 ?_
    rw [rounds_succ]
    go_wp2_with fail
    go_quiet (fail)
    go_wp2_with fail
    rw [rounds_succ]
    go_wp2_with fail
    go_at_call 38
    refine (work_same S G MG L ML SH _ _ (es := #[{ key := .agg #[.int .i64 c, .int .i64 r], val := .agg #[.int .i64 1, .int .i64 1, .float .f64 (oneF x), .string s, .bool b, .int .i64 f, .int .i64 nk, .int .i64 no, .float .f64 (oneF nx), .string ns, .bool nb, .int .i64 nf, .int .i64 rc, .int .i64 rr, .bool rcf, .bool rrf, .int .i64 tc, .int .i64 tr, .bool tcf, .bool trf, .slice none 0 0], born := b0 }]) (sh := #[{ key := .agg #[.int .i64 c, .int .i64 r], val := .agg #[.int .i64 q1, .float .f64 q2, .string q3, .bool q4, .int .i64 q5], born := bs }]) (ck := ck) (cks := cks) (ckl := ckl) c r (oneF x) s b f nk no (oneF nx) ns nb nf rc rr rcf rrf tc tr tcf trf v3 v4 q1 q2 q3 q4 q5 _ ?_ ?_ ?_ ?_ ?_ ?_ ?_ ?_ ?_ ?_ ?_ ?_ (AddrKeys_one _ _ _ _) (lookE_one _ _ _ _) ?_ ?_ (AddrKeys_one _ _ _ _) (lookE_one _ _ _ _) hso ?_ ?_ ?_ ?_ hne ?_ ?_ ?_ hSG hSL ?_ hGM).mono ?_
    iterate 21 (focus (go_simp; done))
    · have := oldB_lt hS; simp; omega
    rintro e w' ⟨rfl, E3, d3, rfl⟩
    go_wp2_with fail
    refine leaves_cons (f := 33) (by simp) (by first | rfl | simp [go_sem]) ?_
    refine (Set1_idle _ _ _ _ .returning _ ?_ ?_).mono ?_
    · go_simp
    · go_simp
    rintro e u' w'' ⟨rfl, rfl, rfl⟩
    refine ⟨_, ?_, rfl, ext_of_below (by repeat (first | (with_reducible exact Below.refl _ _) | (with_reducible refine Below.drew ?_) | (with_reducible refine below_drewN ?_ _) | (with_reducible refine below_ext _ _ _ ?_ ?_) | (with_reducible refine Below.alloc ?_ ?_ _) | (with_reducible refine Below.setCell ?_ ?_ _) | (with_reducible refine below_putMap ?_ ?_ _ _) | assumption | (focus (simp; done)) | (focus (simp; omega)) | (focus omega) | refine below_tr (by assumption) (by simp <;> omega) ?_))⟩
    simp [results, Tryz.results20, go_sem]
end Go.Proofs.YtencimimccoofaaGreatDoor
