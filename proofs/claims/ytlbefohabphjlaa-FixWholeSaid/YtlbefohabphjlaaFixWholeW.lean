/-
  THE WALK of treadmilllaw1.FixWhole: package fix's Whole, Int, Float and Real are the reference's.
-/
import Derived.Test.YtlbefohabphjlaaTold1
import Derived.Test.YtlbefohabphjlaaRefFix2
import Derived.Test.YtlbefohabphjlaaRefFloat
namespace Go.Proofs.Ytlbefohabphjlaa
open Go.RowKit

namespace Flt
open Ieee

/-- The word reads as no NaN. -/
def NoNan (x : Nat) : Prop := ∀ s f, double.read x ≠ .nan s f

theorem word_ok (s : Bool) (r : Nat) (h : r ≤ 9218868437227405312) : NoNan (double.word s r) := by
  intro t f
  rw [read_word s r (by omega)]
  by_cases h1 : r < 4503599627370496
  · rw [if_pos h1]; intro hc; cases hc
  · rw [if_neg h1]
    by_cases h2 : r < 9218868437227405312
    · rw [if_pos h2]; intro hc; cases hc
    · rw [if_neg h2, if_pos (by omega)]; intro hc; cases hc

theorem nearest_ok (s : Bool) (M : Nat) (P : Int) : NoNan (double.nearest s M P) := by
  by_cases h : M = 0
  · subst h
    unfold Format.nearest
    rw [if_pos rfl]
    exact word_ok s 0 (by omega)
  · rw [nearest_eq s M P h]
    exact word_ok s _ (Nat.min_le_right _ _)

theorem inf_ok (s : Bool) : NoNan (double.write (.infinity s)) := word_ok s _ (by rw [infRung_eq]; omega)

theorem order_self {x : Nat} (h : NoNan x) : double.order x x = some .eq := by
  rcases read_cases x with ⟨z, a1⟩ | ⟨s, a1⟩ | ⟨s, f, a1⟩
  · rw [order_num a1 a1, cmp_eq]
  · exact order_inf_self a1
  · exact absurd a1 (h s f)

theorem ofInt_ok (n : Int) : NoNan (floatOfInt .f64 n) := nearest_ok _ _ _

/-- A whole number's float by 2^20 is some float, and no NaN. -/
theorem div_ok {x : Nat} (h : NoNan x) : ∃ r, double.div x 4697254411347427328 = some r ∧ NoNan r := by
  unfold Format.div
  rw [read_one]
  cases hx : double.read x with
  | number s m i =>
    have hne : ¬ ((4503599627370496 : Nat) = 0) := by omega
    simp only [Datum.quotient, hne, if_false]
    exact ⟨_, rfl, nearest_ok _ _ _⟩
  | infinity s => exact ⟨_, rfl, inf_ok _⟩
  | nan s f => exact absurd hx (h s f)

theorem real_ok (n : Int) : double.div (floatOfInt .f64 n) 4697254411347427328 = some (real n) ∧ (double.order (real n) (real n) == some .eq) = true := by
  obtain ⟨r, h1, h2⟩ := div_ok (ofInt_ok n)
  have e : real n = r := by unfold real; rw [h1]; rfl
  rw [e]
  exact ⟨h1, by rw [order_self h2]; rfl⟩
end Flt

set_option maxHeartbeats 400000 in
theorem rreal_any {n : Int} (w : World) (hd : floatBits .quo .f64 (floatOfInt .f64 n) 4697254411347427328 = some (Flt.real n)) :
    Calls Try.prog 28 #[.int .i64 n] w fun e w' => e = .returned (.float .f64 (Flt.real n)) ∧ w = w' := by
  have hq := fun w => run_float_arith (P := Try.prog) w .quo 28 .f64 (floatOfInt .f64 n) 4697254411347427328 (Flt.real n) hd
  have hcon := fun w => run_convert_int_float (P := Try.prog) w 2 28 .i64 .f64 n (by rw [Try.underlying2]; rfl) Try.underlying28
  clear hd
  go_enter Try.func28, Try.ntmps28
  go_wp2_with fail
  go_ret
  exact ⟨rfl, rfl⟩

set_option maxHeartbeats 2000000 in
theorem fixWhole_walk (n : Int) (x : Nat) (w : World) (a1 : -9223372036854775808 ≤ n) (a2 : n ≤ 9223372036854775807) :
    Calls Try.prog 6 #[.int .i64 n, .float .f64 x] w fun e w' => e = .returned (.bool true) ∧ Grown w w' := by
  obtain ⟨hd, hs⟩ := Flt.real_ok n
  have hs' : (FloatKind.f64.format.order (Flt.real n) (Flt.real n) == some .eq) = true := hs
  have HD := Lib.hid hd
  clear hd hs
  go_enter Try.func6, Try.ntmps6
  go_wp2_with fail
  refine (told_any _).mono ?_; rintro e w1 ⟨rfl, g1⟩
  go_wp2_with fail
  refine (whole_any _ _ a1 a2).mono ?_; rintro e w' ⟨rfl, rfl⟩
  go_wp2_with fail
  refine (rwhole_any _ _ a1 a2).mono ?_; rintro e w' ⟨rfl, rfl⟩
  go_wp2_with fail
  refine (int_any _ _).mono ?_; rintro e w' ⟨rfl, rfl⟩
  go_wp2_with fail
  refine (rint_any _ _).mono ?_; rintro e w' ⟨rfl, rfl⟩
  go_wp2_with fail
  refine (float_any _ _).mono ?_; rintro e w' ⟨rfl, rfl⟩
  go_wp2_with fail
  refine (rfloat_any _ _).mono ?_; rintro e w' ⟨rfl, rfl⟩
  go_wp2_with fail
  refine (real_any _ HD.out).mono ?_; rintro e w' ⟨rfl, rfl⟩
  go_wp2_with fail
  refine (rreal_any _ HD.out).mono ?_; rintro e w' ⟨rfl, rfl⟩
  go_wp2_with fail
  go_ret
  exact ⟨rfl, g1⟩

end Go.Proofs.Ytlbefohabphjlaa
