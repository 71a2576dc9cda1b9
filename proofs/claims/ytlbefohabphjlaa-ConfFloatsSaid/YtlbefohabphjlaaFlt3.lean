/-
  PLAIN: what fix.Float and fix.Real come to, of a float's units. No Go, no program.
-/
import Derived.Test.YtlbefohabphjlaaFlt2
namespace Go.Proofs.Ytlbefohabphjlaa.Flt
open Ieee

/-- fix.Float of a number of so many units. -/
def fltZ (z : Int) : Int :=
  if 8796093022208 * (Q : Int) ≤ z then 9223372036854775807 else if z ≤ -(8796093022208 * (Q : Int)) then -9223372036854775808 else z * 1048576 / (Q : Int)

/-- fix.Float. -/
def flt (x : Nat) : Int :=
  match double.read x with
  | .nan _ _ => 0
  | .infinity s => if s then -9223372036854775808 else 9223372036854775807
  | .number s m i => fltZ (signed s m (i + 1074).toNat)

theorem flt_num {x : Nat} {z : Int} (h : Num x z) : flt x = fltZ z := by
  obtain ⟨s, m, i, e, -, -, -, rfl⟩ := h
  unfold flt
  rw [e]

/-- fix.Real. -/
def real (n : Int) : Nat := (double.div (floatOfInt .f64 n) 4697254411347427328).getD 0

/-- A constant's units. -/
theorem const_num {x : Nat} {s : Bool} {m : Nat} {i : Int} (e : double.read x = .number s m i) (h1 : -1074 ≤ i) (h2 : i ≤ 971) (h3 : m < 9007199254740992) :
    ∃ z, Num x z ∧ z * (2 ^ (-i).toNat : Nat) = signed s (m <<< i.toNat) 0 * Q :=
  ⟨_, ⟨s, m, i, e, h1, h2, h3, rfl⟩, scale_split h1⟩

/-- A constant that is a whole number. -/
theorem const_whole {x : Nat} {s : Bool} {m : Nat} {i : Int} (c : Int) (e : double.read x = .number s m i) (h1 : -1074 ≤ i) (h2 : i ≤ 971) (h3 : m < 9007199254740992)
    (hc : c * (2 ^ (-i).toNat : Nat) = signed s (m <<< i.toNat) 0) : Num x (c * Q) := by
  obtain ⟨z, hz, h⟩ := const_num e h1 h2 h3
  have hp : 0 < 2 ^ (-i).toNat := Nat.two_pow_pos _
  have : z = c * Q := by
    rw [← hc, Int.mul_right_comm] at h
    exact Int.eq_of_mul_eq_mul_right (by omega) h
  rw [← this]
  exact hz

theorem num_2p43 : Num 4800837202776948736 (8796093022208 * (Q : Int)) :=
  const_whole (s := false) (m := 4503599627370496) (i := -9) 8796093022208 (by decide +kernel) (by omega) (by omega) (by omega) (by decide +kernel)
theorem num_m2p43 : Num 14024209239631724544 (-(8796093022208 * (Q : Int))) := by
  have h := const_whole (x := 14024209239631724544) (s := true) (m := 4503599627370496) (i := -9) (-8796093022208) (by decide +kernel) (by omega) (by omega) (by omega) (by decide +kernel)
  rw [Int.neg_mul] at h
  exact h

/-! ### comparisons, as the code asks them -/
theorem cmp_ge {x y : Nat} {z t : Int} (hx : Num x z) (hy : Num y t) : (double.order x y == some .gt || double.order x y == some .eq) = decide (t ≤ z) := by
  rw [order_num hx hy]
  rcases Int.lt_trichotomy z t with h | h | h
  · rw [cmp_lt h]; have : ¬ t ≤ z := by omega
    simp [this]
  · subst h; rw [cmp_eq]; simp
  · rw [cmp_gt h]; have : t ≤ z := by omega
    simp [this]
theorem cmp_le {x y : Nat} {z t : Int} (hx : Num x z) (hy : Num y t) : (double.order x y == some .lt || double.order x y == some .eq) = decide (z ≤ t) := by
  rw [order_num hx hy]
  rcases Int.lt_trichotomy z t with h | h | h
  · rw [cmp_lt h]; have : z ≤ t := by omega
    simp [this]
  · subst h; rw [cmp_eq]; simp
  · rw [cmp_gt h]; have : ¬ z ≤ t := by omega
    simp [this]

/-- The product by 2^20 that fix.Float floors. -/
theorem flt_mid {x : Nat} {z : Int} (hx : Num x z) (h1 : z < 8796093022208 * (Q : Int)) (h2 : -(8796093022208 * (Q : Int)) < z) :
    ∃ y, double.mul x 4697254411347427328 = some y ∧ Num y (z * 1048576) ∧ fltZ z = z * 1048576 / (Q : Int) ∧ -9223372036854775808 ≤ z * 1048576 / (Q : Int) ∧ z * 1048576 / (Q : Int) ≤ 9223372036854775807 := by
  have hQ := Q_pos
  obtain ⟨y, hy, hn⟩ := mul_one hx (by omega)
  refine ⟨y, hy, hn, ?_, ?_, ?_⟩
  · unfold fltZ
    rw [if_neg (by omega), if_neg (by omega)]
  · rw [Int.le_ediv_iff_mul_le (by omega)]; omega
  · have := Int.ediv_lt_of_lt_mul (a := z * 1048576) (b := 9223372036854775808) (c := (Q : Int)) (by omega) (by omega)
    omega

/-- A whole float's integer. -/
theorem whole_toInt {x : Nat} {n : Int} (hx : Num x (n * (Q : Int))) : (double.read x).toInt .zero = some n := by
  have hQ := Q_pos
  rw [toInt_num hx, Int.mul_tdiv_cancel _ (by omega)]

theorem fltZ_range (z : Int) : -9223372036854775808 ≤ fltZ z ∧ fltZ z ≤ 9223372036854775807 := by
  have hQ := Q_pos
  unfold fltZ
  by_cases h1 : 8796093022208 * (Q : Int) ≤ z
  · rw [if_pos h1]; omega
  · by_cases h2 : z ≤ -(8796093022208 * (Q : Int))
    · rw [if_neg h1, if_pos h2]; omega
    · rw [if_neg h1, if_neg h2]
      constructor
      · rw [Int.le_ediv_iff_mul_le (by omega)]; omega
      · have := Int.ediv_lt_of_lt_mul (a := z * 1048576) (b := 9223372036854775808) (c := (Q : Int)) (by omega) (by omega)
        omega

theorem flt_range (x : Nat) : -9223372036854775808 ≤ flt x ∧ flt x ≤ 9223372036854775807 := by
  unfold flt
  split
  · omega
  · split <;> omega
  · exact fltZ_range _

/-- A whole number's fixed-point float. -/
theorem real_num {n : Int} (h : n.natAbs < 9007199254740992) : ∃ t, double.div (floatOfInt .f64 n) 4697254411347427328 = some (real n) ∧ Num (real n) t ∧ t * 1048576 = n * Q := by
  obtain ⟨r, t, h1, h2, h3⟩ := div_one (ofInt_small h)
  refine ⟨t, ?_, ?_, h3⟩
  · unfold real; rw [h1]; rfl
  · unfold real; rw [h1]; exact h2

/-- A number's float comes back. -/
theorem flt_real {n : Int} (h : n.natAbs < 9007199254740992) : flt (real n) = n := by
  obtain ⟨t, -, h2, h3⟩ := real_num h
  have hQ := Q_pos
  rw [flt_num h2]
  unfold fltZ
  have e : t * 1048576 / (Q : Int) = n := by rw [h3, Int.mul_ediv_cancel _ (by omega)]
  have h4 : n * (Q : Int) < 9007199254740992 * Q := Int.mul_lt_mul_of_pos_right (by omega) (by omega)
  have h5 : -9007199254740992 * (Q : Int) < n * Q := Int.mul_lt_mul_of_pos_right (by omega) (by omega)
  rw [if_neg (by omega), if_neg (by omega), e]

end Go.Proofs.Ytlbefohabphjlaa.Flt
