/- The first fault of a batch of one. -/
import Derived.Test.YtencimimccoofaaGreatDoor14s
namespace Go.Proofs.YtencimimccoofaaGreatDoor
set_option linter.all false
open Go.RowKit

noncomputable def onNil {α : Type} (o : Option (Array MapEntry × Nat)) (f : Nat → Result α) (alt : Result α) : Result α :=
  match o with
  | some (es, ck) => if es.isEmpty then f ck else alt
  | none => alt
@[go_sem] theorem onNil_nil {α : Type} (ck : Nat) (f : Nat → Result α) (alt : Result α) : onNil (some (#[], ck)) f alt = f ck := rfl
noncomputable def onOne {α : Type} (o : Option (Array MapEntry × Nat)) (f : MapEntry → Nat → Result α) (alt : Result α) : Result α :=
  match o with
  | some (es, ck) => match es.toList with | [e] => f e ck | _ => alt
  | none => alt
@[go_sem] theorem onOne_one {α : Type} (e : MapEntry) (ck : Nat) (f : MapEntry → Nat → Result α) (alt : Result α) : onOne (some (#[e], ck)) f alt = f e ck := rfl
noncomputable def entry0 (t : TypeId) (m k : Value) (w : World) : Result Value := (Instr.mapEntry t m k).run Tryz.prog w
noncomputable def entryStore0 (t : TypeId) (m s v : Value) (w : World) : Result Unit := (Instr.entryStore t m s v).run Tryz.prog w

@[go_sem] theorem ment_MInt (w : World) (m : Nat) (c r : Int) : (Instr.mapEntry 104 (.map (some m)) (.agg #[.int .i64 c, .int .i64 r])).run Tryz.prog w =
    onNil (w.mapAt m) (fun ck => .ok (.tuple #[.int .i64 0, .int .i64 ck]) (w.putMap m #[{ key := .agg #[.int .i64 c, .int .i64 r], val := .int .i64 0, born := ck }] (ck + 1))) (entry0 104 (.map (some m)) (.agg #[.int .i64 c, .int .i64 r]) w) := by
  unfold onNil
  split
  · rename_i es ck h
    split
    · rename_i he
      have he' : es = #[] := by simpa using he
      subst he'
      unfold Instr.mapEntry
      simp only [Sem.run_bind, run_underlying un_MInt, Result.andThen_ok, run_getMap h, run_checkKey_addr]
      rw [run_findKey w c r #[] AddrKeys_nil]
      simp [idxE, zero_MInt, run_setMap h, goInt]
    · rfl
  · rfl
@[go_sem] theorem mstore_MInt (w : World) (t : TypeId) (m : Nat) (s : Int) (v : Value) : (Instr.entryStore t (.map (some m)) (.int .i64 s) v).run Tryz.prog w =
    onOne (w.mapAt m) (fun e ck => if ((e.born : Int) == s) = true then .ok () (w.putMap m #[{ e with val := v }] ck) else entryStore0 t (.map (some m)) (.int .i64 s) v w) (entryStore0 t (.map (some m)) (.int .i64 s) v w) := by
  unfold onOne
  split
  · rename_i es ck h
    split
    · rename_i e he
      have he' : es = #[e] := by apply Array.toList_inj.1; simpa using he
      subst he'
      show _ = (if ((e.born : Int) == s) = true then _ else _)
      split
      · rename_i hb
        unfold Instr.entryStore
        simp [run_getMap h, asInt, asIntOf, Result.andThen, hb, run_setMap h]
      · rfl
    · rfl
  · rfl
theorem AddrKeys_one (c r : Int) (v : Value) (b : Nat) : AddrKeys #[{ key := .agg #[.int .i64 c, .int .i64 r], val := v, born := b }] := by intro e he; simp at he; subst he; exact ⟨c, r, rfl⟩
theorem lookE_one (c r : Int) (v : Value) (b : Nat) : lookE #[{ key := .agg #[.int .i64 c, .int .i64 r], val := v, born := b }] c r = some v := by simp [lookE, kEq]
set_option maxHeartbeats 1600000 in
set_option maxRecDepth 20000 in
theorem fault_new (S G MG P cp : Nat) {es : Array MapEntry} {ck : Nat} (c r : Int) (k : Int) (x : Nat) (s : ByteArray) (b : Bool) (f : Int) (nk no : Int) (nx : Nat) (ns : ByteArray) (nb : Bool) (nf : Int) (rc rr : Int) (rcf rrf : Bool) (tc tr : Int) (tcf trf : Bool) (w : World) (ha : addrValid c r = true)
    (hk2 : (k == 2) = false) (hv : contOk 1 k x s b f (noNode nk no nx ns nb nf rc rr rcf rrf tc tr tcf trf 0) = true) (hsz : (es.size : Int) = 0)
    (hs0 : w.cell? ⟨S, 0, none⟩ = some (.pointer (some ⟨G, 0, none⟩))) (hS : w.oldB S = true)
    (hg : w.cell? ⟨G, 0, none⟩ = some (.map (some MG))) (hgl : w.oldB G = true) (hm : w.mapAt MG = some (es, ck)) (hml : w.oldB MG = true) (hk : AddrKeys es) (hlk : lookE es c r = none)
    (h0 : w.hasC P 23 = true) (h1 : w.cellsAt P 0 23 = #[.int .i64 c, .int .i64 r, .int .i64 1, .int .i64 k, .float .f64 x, .string s, .bool b, .int .i64 f, .int .i64 nk, .int .i64 no, .float .f64 nx, .string ns, .bool nb, .int .i64 nf, .int .i64 rc, .int .i64 rr, .bool rcf, .bool rrf, .int .i64 tc, .int .i64 tr, .bool tcf, .bool trf, .slice none 0 0]) (hP : w.oldB P = true) :
    Calls Tryz.prog 32 #[.pointer (some ⟨S, 0, none⟩), .slice (some ⟨P, 0, none⟩) 1 cp] w
      fun e w' => e = .returned (.tuple #[.int .i64 0, .int .i64 0]) ∧ Below w.heap.size w w' := by
  have hc2 : ((1 : Int) == 2) = false := rfl
  have hak := AddrKeys_nil
  have hln := lookE_nil c r
  have hak1 := AddrKeys_one c r (.int .i64 0) 0
  have hln1 := lookE_one c r (.int .i64 0) 0
  have hak2 := AddrKeys_one c r (.int .i64 1) 0
  have hln2 := lookE_one c r (.int .i64 1) 0
  go_enter Tryz.func32, Tryz.ntmps32
  go_wp2_with (first | (go_at_call 54; refine (grid_Len G MG (es := es) (ck := ck) _ (by go_simp) (by go_simp) hk).mono ?_; rintro e w' ⟨rfl, rfl⟩))
  refine wp_loop_rounds 2 ?_
  rw [rounds_succ]
  go_wp2_with (first | (go_at_call 55; refine (addr_Valid _ _ _).mono ?_; rintro e w' ⟨rfl, hbel⟩; obtain ⟨E1, d1, rfl⟩ := ext_of_below hbel; clear hbel) | (go_at_call 56; refine (grid_Valid0 _ _ _ _ _ _ _ _ _ _ _ _ _ _ _ _ _ _ _ _ hk2 hc2 _).mono ?_; rintro e w' ⟨rfl, hbel⟩; obtain ⟨E1, d1, rfl⟩ := ext_of_below hbel; clear hbel))
  go_region_held3 (fun w' => w'.hasC (w.heap.size + 1) 2 = true ∧ w'.cellsAt (w.heap.size + 1) 0 2 = #[.int .i64 c, .int .i64 r] ∧ (w'.mapAt w.heap.size).isSome = true) (((try dsimp only); (repeat' apply And.intro) <;> go_simp)) (fail)
  all_goals
    go_wp2_with fail
    go_region_held3 (fun w' => w'.cell? ⟨S, 0, none⟩ = some (.pointer (some ⟨G, 0, none⟩)) ∧ w'.hasC (w.heap.size + 1) 2 = true ∧ w'.cellsAt (w.heap.size + 1) 0 2 = #[.int .i64 c, .int .i64 r]) (((try dsimp only); (repeat' apply And.intro) <;> go_simp)) (first | (go_at_call 35; refine (grid_Get_none G MG (es := es) (ck := ck) c r _ (by go_simp) (by go_simp) (by go_simp) (by go_simp) hk hlk).mono ?_; rintro e w' ⟨rfl, hbel⟩; obtain ⟨E1, d1, rfl⟩ := ext_of_below hbel; clear hbel))
    go_wp2_with fail
    rw [rounds_succ]
    go_wp2_with fail
    go_ret2
    exact ⟨rfl, (by repeat (first | (with_reducible exact Below.refl _ _) | (with_reducible refine Below.drew ?_) | (with_reducible refine below_drewN ?_ _) | (with_reducible refine below_ext _ _ _ ?_ ?_) | (with_reducible refine Below.alloc ?_ ?_ _) | (with_reducible refine Below.setCell ?_ ?_ _) | (with_reducible refine below_putMap ?_ ?_ _ _) | assumption | (focus (simp; done)) | (focus (simp; omega)) | (focus omega) | refine below_tr (by assumption) (by simp <;> omega) ?_))⟩
set_option maxHeartbeats 1600000 in
set_option maxRecDepth 20000 in
theorem fault_old (S G MG P cp : Nat) {es : Array MapEntry} {ck : Nat} (c r : Int) (k : Int) (x : Nat) (s : ByteArray) (b : Bool) (f : Int) (nk no : Int) (nx : Nat) (ns : ByteArray) (nb : Bool) (nf : Int) (rc rr : Int) (rcf rrf : Bool) (tc tr : Int) (tcf trf : Bool) (k1 : Int) (x1 : Nat) (s1 : ByteArray) (b1 : Bool) (f1 : Int) (nk1 no1 : Int) (nx1 : Nat) (ns1 : ByteArray) (nb1 : Bool) (nf1 : Int) (rc1 rr1 : Int) (rcf1 rrf1 : Bool) (tc1 tr1 : Int) (tcf1 trf1 : Bool) (w : World) (ha : addrValid c r = true)
    (hk2 : (k == 2) = false) (hv : contOk 1 k x s b f (noNode nk no nx ns nb nf rc rr rcf rrf tc tr tcf trf 0) = true) (hsz : (es.size : Int) = 1)
    (hs0 : w.cell? ⟨S, 0, none⟩ = some (.pointer (some ⟨G, 0, none⟩))) (hS : w.oldB S = true)
    (hg : w.cell? ⟨G, 0, none⟩ = some (.map (some MG))) (hgl : w.oldB G = true) (hm : w.mapAt MG = some (es, ck)) (hml : w.oldB MG = true) (hk : AddrKeys es) (hlk : lookE es c r = some (.agg #[.int .i64 1, .int .i64 k1, .float .f64 x1, .string s1, .bool b1, .int .i64 f1, .int .i64 nk1, .int .i64 no1, .float .f64 nx1, .string ns1, .bool nb1, .int .i64 nf1, .int .i64 rc1, .int .i64 rr1, .bool rcf1, .bool rrf1, .int .i64 tc1, .int .i64 tr1, .bool tcf1, .bool trf1, .slice none 0 0]))
    (h0 : w.hasC P 23 = true) (h1 : w.cellsAt P 0 23 = #[.int .i64 c, .int .i64 r, .int .i64 1, .int .i64 k, .float .f64 x, .string s, .bool b, .int .i64 f, .int .i64 nk, .int .i64 no, .float .f64 nx, .string ns, .bool nb, .int .i64 nf, .int .i64 rc, .int .i64 rr, .bool rcf, .bool rrf, .int .i64 tc, .int .i64 tr, .bool tcf, .bool trf, .slice none 0 0]) (hP : w.oldB P = true) :
    Calls Tryz.prog 32 #[.pointer (some ⟨S, 0, none⟩), .slice (some ⟨P, 0, none⟩) 1 cp] w
      fun e w' => e = .returned (.tuple #[.int .i64 0, .int .i64 0]) ∧ Below w.heap.size w w' := by
  have hc2 : ((1 : Int) == 2) = false := rfl
  have hak := AddrKeys_nil
  have hln := lookE_nil c r
  have hak1 := AddrKeys_one c r (.int .i64 0) 0
  have hln1 := lookE_one c r (.int .i64 0) 0
  have hak2 := AddrKeys_one c r (.int .i64 1) 0
  have hln2 := lookE_one c r (.int .i64 1) 0
  go_enter Tryz.func32, Tryz.ntmps32
  go_wp2_with (first | (go_at_call 54; refine (grid_Len G MG (es := es) (ck := ck) _ (by go_simp) (by go_simp) hk).mono ?_; rintro e w' ⟨rfl, rfl⟩))
  refine wp_loop_rounds 2 ?_
  rw [rounds_succ]
  go_wp2_with (first | (go_at_call 55; refine (addr_Valid _ _ _).mono ?_; rintro e w' ⟨rfl, hbel⟩; obtain ⟨E1, d1, rfl⟩ := ext_of_below hbel; clear hbel) | (go_at_call 56; refine (grid_Valid0 _ _ _ _ _ _ _ _ _ _ _ _ _ _ _ _ _ _ _ _ hk2 hc2 _).mono ?_; rintro e w' ⟨rfl, hbel⟩; obtain ⟨E1, d1, rfl⟩ := ext_of_below hbel; clear hbel))
  go_region_held3 (fun w' => w'.hasC (w.heap.size + 1) 2 = true ∧ w'.cellsAt (w.heap.size + 1) 0 2 = #[.int .i64 c, .int .i64 r] ∧ (w'.mapAt w.heap.size).isSome = true) (((try dsimp only); (repeat' apply And.intro) <;> go_simp)) (fail)
  all_goals
    go_wp2_with fail
    go_region_held3 (fun w' => w'.cell? ⟨S, 0, none⟩ = some (.pointer (some ⟨G, 0, none⟩)) ∧ w'.hasC (w.heap.size + 1) 2 = true ∧ w'.cellsAt (w.heap.size + 1) 0 2 = #[.int .i64 c, .int .i64 r]) (((try dsimp only); (repeat' apply And.intro) <;> go_simp)) (first | (go_at_call 35; refine (grid_Get_some G MG (es := es) (ck := ck) c r 1 k1 x1 s1 b1 f1 nk1 no1 nx1 ns1 nb1 nf1 rc1 rr1 rcf1 rrf1 tc1 tr1 tcf1 trf1 _ (by go_simp) (by go_simp) (by go_simp) (by go_simp) hk hlk).mono ?_; rintro e w' ⟨rfl, hbel⟩; obtain ⟨E1, d1, rfl⟩ := ext_of_below hbel; clear hbel))
    go_wp2_with fail
    rw [rounds_succ]
    go_wp2_with fail
    go_ret2
    exact ⟨rfl, (by repeat (first | (with_reducible exact Below.refl _ _) | (with_reducible refine Below.drew ?_) | (with_reducible refine below_drewN ?_ _) | (with_reducible refine below_ext _ _ _ ?_ ?_) | (with_reducible refine Below.alloc ?_ ?_ _) | (with_reducible refine Below.setCell ?_ ?_ _) | (with_reducible refine below_putMap ?_ ?_ _ _) | assumption | (focus (simp; done)) | (focus (simp; omega)) | (focus omega) | refine below_tr (by assumption) (by simp <;> omega) ?_))⟩
end Go.Proofs.YtencimimccoofaaGreatDoor
