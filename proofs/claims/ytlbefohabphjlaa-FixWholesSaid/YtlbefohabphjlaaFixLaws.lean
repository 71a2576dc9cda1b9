/-
  PLAIN: what the statements of layer 1 say of sums, products and quotients cut to an int64. No Go, no program.
-/
import Derived.Test.YtlbefohabphjlaaMath
namespace Go.Proofs.Ytlbefohabphjlaa.Fx

theorem add_mono {x y : Int} (c : Int) (h : x ≤ y) : add x c ≤ add y c := sat_le (by omega)
theorem sub_mono {x y : Int} (c : Int) (h : x ≤ y) : sub x c ≤ sub y c := sat_le (by omega)
theorem sub_anti {x y : Int} (c : Int) (h : x ≤ y) : sub c y ≤ sub c x := sat_le (by omega)
theorem whole_mono {x y : Int} (h : x ≤ y) : whole x ≤ whole y := sat_le (by omega)
theorem int_mono {x y : Int} (h : x ≤ y) : int x ≤ int y := by unfold int; omega
theorem mul_mono {x y c : Int} (hc : 0 ≤ c) (h : x ≤ y) : mul x c ≤ mul y c := by
  have := Int.mul_le_mul_of_nonneg_right h hc
  exact sat_le (by omega)
theorem mul_anti {x y c : Int} (hc : c ≤ 0) (h : x ≤ y) : mul y c ≤ mul x c := by
  have := Int.mul_le_mul_of_nonpos_right h hc
  exact sat_le (by omega)
theorem div_pos_eq (a : Int) {b : Int} (hb : 0 < b) : div a b = sat (a * 1048576 / b) := by
  unfold div
  rw [if_neg (by omega), Int.fdiv_eq_ediv_of_nonneg _ (by omega)]
theorem div_neg_eq (a : Int) {b : Int} (hb : b < 0) : div a b = sat (-(a * 1048576) / (-b)) := by
  unfold div
  rw [if_neg (by omega), ← Int.neg_fdiv_neg, Int.fdiv_eq_ediv_of_nonneg _ (by omega)]
theorem div_mono {x y c : Int} (hc : 0 < c) (h : x ≤ y) : div x c ≤ div y c := by
  rw [div_pos_eq x hc, div_pos_eq y hc]
  exact sat_le (Int.ediv_le_ediv hc (by omega))
theorem div_anti {x y c : Int} (hc : c < 0) (h : x ≤ y) : div y c ≤ div x c := by
  rw [div_neg_eq x hc, div_neg_eq y hc]
  exact sat_le (Int.ediv_le_ediv (by omega) (by omega))
theorem mul_comm' (a b : Int) : mul b a = mul a b := by unfold mul; rw [Int.mul_comm]
theorem add_comm' (a b : Int) : add b a = add a b := by unfold add; rw [Int.add_comm]
theorem mul_unit {a : Int} (h1 : -9223372036854775808 ≤ a) (h2 : a ≤ 9223372036854775807) : mul a 1048576 = a := by
  unfold mul; rw [Int.mul_ediv_cancel _ (by omega)]; exact sat_eq h1 h2
theorem div_unit {a : Int} (h1 : -9223372036854775808 ≤ a) (h2 : a ≤ 9223372036854775807) : div a 1048576 = a := by
  rw [div_pos_eq a (by omega), Int.mul_ediv_cancel _ (by omega)]; exact sat_eq h1 h2

/-! ### FixEnds -/
theorem big_prod {x y : Int} (hx : 1125899906842624 ≤ x) (hy : 1125899906842624 ≤ y) : 1267650600228229401496703205376 ≤ x * y := by
  have := Int.mul_le_mul hx hy (by omega) (by omega)
  omega
theorem mul_hi {x y : Int} (hx : 1125899906842624 ≤ x) (hy : 1125899906842624 ≤ y) : mul x y = 9223372036854775807 := by
  have := big_prod hx hy
  exact sat_hi (by omega)
theorem mul_lo' {x y : Int} (hx : 1125899906842624 ≤ x) (hy : 1125899906842624 ≤ y) : mul (-x) y = -9223372036854775808 := by
  have := big_prod hx hy
  unfold mul
  rw [Int.neg_mul]
  exact sat_lo (by omega)
theorem mul_hi' {x y : Int} (hx : 1125899906842624 ≤ x) (hy : 1125899906842624 ≤ y) : mul (-x) (-y) = 9223372036854775807 := by
  unfold mul
  rw [Int.neg_mul_neg]
  exact mul_hi hx hy
theorem div_one_hi {x : Int} (hx : 1125899906842624 ≤ x) : div x 1 = 9223372036854775807 := by
  rw [div_pos_eq x (by omega)]; exact sat_hi (by omega)
theorem div_one_lo {x : Int} (hx : 1125899906842624 ≤ x) : div (-x) 1 = -9223372036854775808 := by
  rw [div_pos_eq _ (by omega)]; exact sat_lo (by omega)
theorem div_m1_lo {x : Int} (hx : 1125899906842624 ≤ x) : div x (-1) = -9223372036854775808 := by
  rw [div_neg_eq x (by omega), Int.neg_neg, Int.ediv_one]; exact sat_lo (by omega)
theorem whole_hi {x : Int} (hx : 1125899906842624 ≤ x) : whole x = 9223372036854775807 := sat_hi (by omega)
theorem whole_lo {x : Int} (hx : 1125899906842624 ≤ x) : whole (-x) = -9223372036854775808 := sat_lo (by omega)
theorem div_0 (b : Int) : div 0 b = 0 := by
  unfold div
  by_cases h : b = 0
  · rw [if_pos h]; rfl
  · rw [if_neg h, Int.zero_mul, Int.zero_fdiv]; rfl
theorem mul_0 (b : Int) : mul 0 b = 0 := by unfold mul; rw [Int.zero_mul]; rfl

/-! ### FixHalves -/
theorem half (a : Int) (h1 : -9223372036854775808 ≤ a) (h2 : a ≤ 9223372036854775807) : mul a 524288 = a / 2 := by
  unfold mul sat; omega
theorem twice (a : Int) (h1 : -9223372036854775808 ≤ a) (h2 : a ≤ 9223372036854775807) : mul (a / 2) 2097152 = a / 2 * 2 := by
  unfold mul sat; omega
theorem halved (a : Int) (h1 : -9223372036854775808 ≤ a) (h2 : a ≤ 9223372036854775807) : div a 2097152 = a / 2 := by
  rw [div_pos_eq a (by omega)]; unfold sat; omega

/-! ### FixParts -/
theorem parts {x y q : Int} (hx1 : -1073741824 < x) (hx2 : x < 1073741824) (hy1 : 1 ≤ y) (hy2 : y ≤ 1073741824) (hq : q = x * 1048576 / y) :
    div x y = q ∧ div (-x) (-y) = q ∧ q * y ≤ x * 1048576 ∧ x * 1048576 < q * y + y ∧ -1125899906842624 ≤ q ∧ q ≤ 1125899906842624 := by
  have e := Int.mul_ediv_add_emod (x * 1048576) y
  have e1 := Int.emod_nonneg (x * 1048576) (show y ≠ 0 by omega)
  have e2 := Int.emod_lt_of_pos (x * 1048576) (show 0 < y by omega)
  rw [← hq, Int.mul_comm] at e
  have q1 : -1125899906842624 ≤ q := by
    rw [hq, Int.le_ediv_iff_mul_le (by omega)]
    omega
  have q2 : q ≤ 1125899906842624 := by
    have : q < 1125899906842625 := by rw [hq]; exact Int.ediv_lt_of_lt_mul (by omega) (by omega)
    omega
  refine ⟨?_, ?_, by omega, by omega, q1, q2⟩
  · rw [div_pos_eq x (by omega), ← hq]; exact sat_eq (by omega) (by omega)
  · rw [div_neg_eq _ (by omega), Int.neg_mul, Int.neg_neg, Int.neg_neg, ← hq]; exact sat_eq (by omega) (by omega)

/-! ### FixBack -/
theorem back_prod {x y : Int} (hx1 : -1099511627776 < x) (hx2 : x < 1099511627776) (hy1 : 1048576 ≤ y) (hy2 : y < 1099512676352) :
    mul x y = x * y / 1048576 ∧ -9223372036854775808 ≤ x * y / 1048576 ∧ x * y / 1048576 ≤ 9223372036854775807 := by
  have h1 : x * y ≤ 1099511627776 * y := Int.mul_le_mul_of_nonneg_right (by omega) (by omega)
  have h2 : -1099511627776 * y ≤ x * y := Int.mul_le_mul_of_nonneg_right (by omega) (by omega)
  refine ⟨sat_eq (by omega) (by omega), by omega, by omega⟩
theorem back {x y p : Int} (hx1 : -1099511627776 < x) (hx2 : x < 1099511627776) (hy1 : 1048576 ≤ y) (hp : p = x * y / 1048576 * 1048576 / y) :
    div (x * y / 1048576) y = p ∧ p ≤ x ∧ x - 2 ≤ p ∧ -1099511627779 < p ∧ p < 1099511627776 := by
  have hle : p ≤ x := by
    have : p < x + 1 := by
      rw [hp]
      exact Int.ediv_lt_of_lt_mul (by omega) (by rw [Int.add_mul]; omega)
    omega
  have hge : x - 1 ≤ p := by
    rw [hp, Int.le_ediv_iff_mul_le (by omega), Int.sub_mul]
    omega
  refine ⟨?_, hle, by omega, by omega, by omega⟩
  rw [div_pos_eq _ (by omega), ← hp]
  exact sat_eq (by omega) (by omega)
theorem back_whole {m : Int} (h1 : -1099511627776 < m) (h2 : m < 1099511627776) : whole m = m * 1048576 ∧ int (m * 1048576) = m := by
  refine ⟨sat_eq (by omega) (by omega), ?_⟩
  unfold int; omega

/-! ### FixWholes -/
theorem wholes_prod {x y : Int} (hx1 : -1048576 < x) (hx2 : x < 1048576) (hy1 : -1048576 < y) (hy2 : y < 1048576) : -1099511627776 < x * y ∧ x * y < 1099511627776 := by
  have h : (x * y).natAbs ≤ 1048575 * 1048575 := by rw [Int.natAbs_mul]; exact Nat.mul_le_mul (by omega) (by omega)
  omega
theorem wholes_mul {x y : Int} (hx1 : -1048576 < x) (hx2 : x < 1048576) (hy1 : -1048576 < y) (hy2 : y < 1048576) : mul (x * 1048576) (y * 1048576) = x * y * 1048576 := by
  have h := wholes_prod hx1 hx2 hy1 hy2
  unfold mul
  rw [show x * 1048576 * (y * 1048576) = x * y * 1048576 * 1048576 by rw [Int.mul_assoc, Int.mul_left_comm 1048576 y, ← Int.mul_assoc, Int.mul_assoc (x * y)], Int.mul_ediv_cancel _ (by omega)]
  exact sat_eq (by omega) (by omega)
theorem wholes_div {x y : Int} (hx1 : -1048576 < x) (hx2 : x < 1048576) (hy : y ≠ 0) (hm : x.tmod y = 0) : div (x * 1048576) (y * 1048576) = x.tdiv y * 1048576 := by
  obtain ⟨k, hk⟩ : ∃ k, k = x.tdiv y := ⟨_, rfl⟩
  have hxk : x = y * k := by
    have := Int.mul_tdiv_add_tmod x y
    rw [hm, ← hk] at this
    omega
  have hkb : k.natAbs ≤ x.natAbs := by
    rw [hxk, Int.natAbs_mul]
    exact Nat.le_mul_of_pos_left _ (by omega)
  rw [← hk]
  unfold div
  rw [if_neg (by omega), show x * 1048576 * 1048576 = (k * 1048576) * (y * 1048576) by rw [hxk, Int.mul_comm y k, Int.mul_assoc k, Int.mul_assoc k, Int.mul_assoc k, Int.mul_left_comm 1048576 y, Int.mul_assoc y],
    Int.mul_fdiv_cancel _ (by omega)]
  exact sat_eq (by omega) (by omega)

end Go.Proofs.Ytlbefohabphjlaa.Fx
