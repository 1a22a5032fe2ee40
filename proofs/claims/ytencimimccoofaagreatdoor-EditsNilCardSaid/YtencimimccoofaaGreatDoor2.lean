/- Leaves: values. -/
import Derived.Test.YtencimimccoofaaGreatDoor1
namespace Go.Proofs.YtencimimccoofaaGreatDoor
open Go.RowKit

def nanBits : Nat := 9221120237041090560
/-- is it no NaN? -/
def isNaN (x : Nat) : Bool := FloatKind.f64.format.order x x != some .eq
def oneF (x : Nat) : Nat := if isNaN x then nanBits else x

set_option maxRecDepth 20000 in
theorem parts_Nan (w : World) :
    Calls Tryz.prog 145 #[] w fun e w' => e = .returned (.float .f64 nanBits) ∧ w = w' := by
  go_enter Tryz.func145, Tryz.ntmps145
  go_wp2
  go_ret
  exact ⟨rfl, rfl⟩

theorem parts_One (x : Nat) (w : World) :
    Calls Tryz.prog 111 #[.float .f64 x] w fun e w' => e = .returned (.float .f64 (oneF x)) ∧ w = w' := by
  cases h : isNaN x
  all_goals
    have h1 := h
    unfold isNaN at h
    have H := Lib.hid h1
    clear h1
    go_enter Tryz.func111, Tryz.ntmps111
    go_wp2_with (go_at_call 145; refine (parts_Nan _).mono ?_; rintro e w' ⟨rfl, rfl⟩)
    go_ret
    exact ⟨by simp [oneF, H.out], rfl⟩

def okVal0 (k : Int) (x : Nat) (s : ByteArray) (b : Bool) (f : Int) : Bool := (k == 0) && feq x 0 && s.toList.isEmpty && !b && (f == 0) && ((x : Int) == 0)

set_option maxRecDepth 20000 in
theorem grid_noValue (k : Int) (x : Nat) (s : ByteArray) (b : Bool) (f : Int) (w : World) :
    Calls Tryz.prog 82 #[.agg #[.int .i64 k, .float .f64 x, .string s, .bool b, .int .i64 f]] w fun e w' => e = .returned (.bool (okVal0 k x s b f)) ∧ Below w.heap.size w w' := by
  go_enter Tryz.func82, Tryz.ntmps82
  go_wp2
  all_goals go_ret
  all_goals refine ⟨?_, (by repeat (first | (with_reducible exact Below.refl _ _) | (with_reducible refine Below.drew ?_) | (with_reducible refine below_drewN ?_ _) | (with_reducible refine below_ext _ _ _ ?_ ?_) | (with_reducible refine Below.alloc ?_ ?_ _) | (with_reducible refine Below.setCell ?_ ?_ _) | (with_reducible refine below_putMap ?_ ?_ _ _) | assumption | (focus (simp; done)) | (focus (simp; omega)) | (focus omega) | refine below_tr (by assumption) (by simp <;> omega) ?_))⟩
  all_goals simp [okVal0, *]

def absF (x : Nat) : Nat := (bits .andNot .u64 (x : Int) 9223372036854775808).toNat
def sgnF (x : Nat) : Bool := decide (wrap64 (x : Int) < 0)
theorem math_Abs (x : Nat) (w : World) :
    Calls Tryz.prog 204 #[.float .f64 x] w fun e w' => e = .returned (.float .f64 (absF x)) ∧ w = w' := by
  go_enter Tryz.func204, Tryz.ntmps204
  go_wp2
  go_ret
  exact ⟨rfl, rfl⟩
theorem math_Signbit (x : Nat) (w : World) :
    Calls Tryz.prog 195 #[.float .f64 x] w fun e w' => e = .returned (.bool (sgnF x)) ∧ w = w' := by
  go_enter Tryz.func195, Tryz.ntmps195
  go_wp2
  go_ret
  exact ⟨rfl, rfl⟩
def maxI : Int := 9223372036854775807
def placeF (x : Nat) : Int := if isNaN x then maxI else if sgnF x then wrap64 (wrap64 (-wrap64 (absF x : Int)) - 1) else wrap64 (absF x : Int)
set_option maxRecDepth 20000 in
theorem parts_place (x : Nat) (w : World) :
    Calls Tryz.prog 175 #[.float .f64 x] w fun e w' => e = .returned (.int .i64 (placeF x)) ∧ w = w' := by
  cases h : isNaN x <;> cases hs : sgnF x
  all_goals
    have H := Lib.hid h
    have HS := Lib.hid hs
    unfold isNaN at h
    have hs2 := hs
    go_enter Tryz.func175, Tryz.ntmps175
    go_wp2_with (first | (go_at_call 204; refine (math_Abs _ _).mono ?_; rintro e w' ⟨rfl, rfl⟩) | (go_at_call 195; refine (math_Signbit _ _).mono ?_; rintro e w' ⟨rfl, rfl⟩))
    go_ret
    exact ⟨by simp [placeF, H.out, HS.out, maxI], rfl⟩

theorem parts_Order (x y : Nat) (w : World) :
    Calls Tryz.prog 142 #[.float .f64 x, .float .f64 y] w fun e w' => e = .returned (.int .i64 (cmpI (placeF x) (placeF y))) ∧ w = w' := by
  generalize hp : placeF x = p
  generalize hq : placeF y = q
  have HP := Lib.hid hp
  have HQ := Lib.hid hq
  clear hp hq
  by_cases h1 : p < q <;> by_cases h2 : q < p
  all_goals
    go_enter Tryz.func142, Tryz.ntmps142
    go_wp2_with (go_at_call 175; refine (parts_place _ _).mono ?_; rintro e w' ⟨rfl, rfl⟩; first | rw [HP.out] | rw [HQ.out])
    all_goals go_ret
    all_goals exact ⟨ret_int (by unfold cmpI; (repeat' split) <;> omega), rfl⟩

def oneB (b : Bool) : Int := if b then 1 else 0
theorem value_one (b : Bool) (w : World) :
    Calls Tryz.prog 144 #[.bool b] w fun e w' => e = .returned (.int .i64 (oneB b)) ∧ w = w' := by
  cases b
  all_goals
    go_enter Tryz.func144, Tryz.ntmps144
    go_wp2
    go_ret
    exact ⟨rfl, rfl⟩

theorem strings_Compare (a b : ByteArray) (w : World) :
    Calls Tryz.prog 143 #[.string a, .string b] w fun e w' => e = .returned (.int .i64 (cmpS a b)) ∧ w = w' := by
  go_enter Tryz.func143, Tryz.ntmps143
  go_wp2
  go_ret
  exact ⟨rfl, rfl⟩

/-- how two values stand -/
def valOrd (k1 : Int) (x1 : Nat) (s1 : ByteArray) (b1 : Bool) (f1 : Int) (k2 : Int) (x2 : Nat) (s2 : ByteArray) (b2 : Bool) (f2 : Int) : Int :=
  if cmpI k1 k2 != 0 then cmpI k1 k2 else if k1 == 1 then cmpI (placeF x1) (placeF x2) else if k1 == 2 then cmpS s1 s2 else if k1 == 3 then cmpI (oneB b1) (oneB b2) else if k1 == 4 then cmpI f1 f2 else 0

set_option maxHeartbeats 1600000 in
set_option maxRecDepth 20000 in
theorem value_Order (k1 : Int) (x1 : Nat) (s1 : ByteArray) (b1 : Bool) (f1 : Int) (k2 : Int) (x2 : Nat) (s2 : ByteArray) (b2 : Bool) (f2 : Int) (w : World) :
    Calls Tryz.prog 108 #[.agg #[.int .i64 k1, .float .f64 x1, .string s1, .bool b1, .int .i64 f1], .agg #[.int .i64 k2, .float .f64 x2, .string s2, .bool b2, .int .i64 f2]] w
      fun e w' => e = .returned (.int .i64 (valOrd k1 x1 s1 b1 f1 k2 x2 s2 b2 f2)) ∧ Below w.heap.size w w' := by
  go_enter Tryz.func108, Tryz.ntmps108
  go_wp2_with (first | (go_at_call 77; refine (cmp_Compare _ _ _).mono ?_; rintro e w' ⟨rfl, rfl⟩) | (go_at_call 142; refine (parts_Order _ _ _).mono ?_; rintro e w' ⟨rfl, rfl⟩) | (go_at_call 143; refine (strings_Compare _ _ _).mono ?_; rintro e w' ⟨rfl, rfl⟩) | (go_at_call 144; refine (value_one _ _).mono ?_; rintro e w' ⟨rfl, rfl⟩))
  rotate_left 3
  focus go_region_held3 (fun w' => w'.cell? ⟨w.heap.size, 3, none⟩ = some (.bool b1) ∧ w'.cell? ⟨w.heap.size + 1, 3, none⟩ = some (.bool b2)) (go_keep) (first | (go_at_call 77; refine (cmp_Compare _ _ _).mono ?_; rintro e w' ⟨rfl, rfl⟩) | (go_at_call 142; refine (parts_Order _ _ _).mono ?_; rintro e w' ⟨rfl, rfl⟩) | (go_at_call 143; refine (strings_Compare _ _ _).mono ?_; rintro e w' ⟨rfl, rfl⟩) | (go_at_call 144; refine (value_one _ _).mono ?_; rintro e w' ⟨rfl, rfl⟩))
  go_wp2
  all_goals go_ret
  all_goals exact ⟨ret_int (by simp [valOrd, *]), (by repeat (first | (with_reducible exact Below.refl _ _) | (with_reducible refine Below.drew ?_) | (with_reducible refine below_drewN ?_ _) | (with_reducible refine below_ext _ _ _ ?_ ?_) | (with_reducible refine Below.alloc ?_ ?_ _) | (with_reducible refine Below.setCell ?_ ?_ _) | (with_reducible refine below_putMap ?_ ?_ _ _) | assumption | (focus (simp; done)) | (focus (simp; omega)) | (focus omega) | refine below_tr (by assumption) (by simp <;> omega) ?_))⟩

theorem value_Same (k1 : Int) (x1 : Nat) (s1 : ByteArray) (b1 : Bool) (f1 : Int) (k2 : Int) (x2 : Nat) (s2 : ByteArray) (b2 : Bool) (f2 : Int) (w : World) :
    Calls Tryz.prog 78 #[.agg #[.int .i64 k1, .float .f64 x1, .string s1, .bool b1, .int .i64 f1], .agg #[.int .i64 k2, .float .f64 x2, .string s2, .bool b2, .int .i64 f2]] w
      fun e w' => e = .returned (.bool (valOrd k1 x1 s1 b1 f1 k2 x2 s2 b2 f2 == 0)) ∧ Below w.heap.size w w' := by
  go_enter Tryz.func78, Tryz.ntmps78
  go_wp2_with (go_at_call 108; refine (value_Order _ _ _ _ _ _ _ _ _ _ _).mono ?_; rintro e w' ⟨rfl, hb⟩)
  go_ret
  exact ⟨rfl, (by repeat (first | (with_reducible exact Below.refl _ _) | (with_reducible refine Below.drew ?_) | (with_reducible refine below_drewN ?_ _) | (with_reducible refine below_ext _ _ _ ?_ ?_) | (with_reducible refine Below.alloc ?_ ?_ _) | (with_reducible refine Below.setCell ?_ ?_ _) | (with_reducible refine below_putMap ?_ ?_ _ _) | assumption | (focus (simp; done)) | (focus (simp; omega)) | (focus omega) | refine below_tr (by assumption) (by simp <;> omega) ?_))⟩

theorem value_OfNumber (x : Nat) (w : World) :
    Calls Tryz.prog 80 #[.float .f64 x] w fun e w' => e = .returned (.agg #[.int .i64 1, .float .f64 (oneF x), .string ⟨#[]⟩, .bool false, .int .i64 0]) ∧ Below w.heap.size w w' := by
  go_enter Tryz.func80, Tryz.ntmps80
  go_wp2_with (go_at_call 111; refine (parts_One _ _).mono ?_; rintro e w' ⟨rfl, rfl⟩)
  exact bodyPost_struct Tryz.results80 un_Value sz_Value rfl rfl (by go_simp) (by go_simp) ⟨rfl, (by repeat (first | (with_reducible exact Below.refl _ _) | (with_reducible refine Below.drew ?_) | (with_reducible refine below_drewN ?_ _) | (with_reducible refine below_ext _ _ _ ?_ ?_) | (with_reducible refine Below.alloc ?_ ?_ _) | (with_reducible refine Below.setCell ?_ ?_ _) | (with_reducible refine below_putMap ?_ ?_ _ _) | assumption | (focus (simp; done)) | (focus (simp; omega)) | (focus omega) | refine below_tr (by assumption) (by simp <;> omega) ?_))⟩
end Go.Proofs.YtencimimccoofaaGreatDoor
