/-
  THE WALKS of the reference's Float and Real (layer 1): they come to the same plain functions as package fix's.
-/
import Derived.Test.YtlbefohabphjlaaFloat
namespace Go.Proofs.Ytlbefohabphjlaa
open Go.RowKit

namespace Flt
open Ieee
theorem cmp_gtr' {x y : Nat} {z t : Int} (hx : Num x z) (hy : Num y t) : (double.order x y == some .gt) = decide (t < z) := by
  rw [order_num hx hy]
  rcases Int.lt_trichotomy z t with h | h | h
  · rw [cmp_lt h]; have : ¬ t < z := by omega
    simp [this]
  · subst h; rw [cmp_eq]; simp
  · rw [cmp_gt h]; simp [h]

/-- A float cut towards zero is a float again. -/
theorem tdiv_float {x : Nat} {z : Int} (hx : Num x z) (hb : z.natAbs < 2 ^ 64 * Q) : Num (floatOfInt .f64 (z.tdiv (Q : Int))) (z.tdiv (Q : Int) * Q) := by
  obtain ⟨s, m, i, e, h1, h2, h3, rfl⟩ := hx
  rw [signed_natAbs] at hb
  rw [← units_tdiv h1, ← cut_zero_signed]
  obtain ⟨C, hC⟩ : ∃ C, C = Toward.zero.cut s (m <<< i.toNat) (-i).toNat := ⟨_, rfl⟩
  rw [← hC]
  have hnat : (signed s C 0).natAbs = C := by rw [signed_natAbs, Nat.pow_zero, Nat.mul_one]
  rw [cut_zero] at hC
  rcases Nat.eq_zero_or_pos m with hm | hm
  · subst hm
    refine ofInt_num (m := 0) (k := 0) (by rw [hnat, hC, Nat.zero_shiftLeft, Nat.zero_div, Nat.zero_mul]) (by omega) (by omega)
  · have hp := small_place 64 hm h1 hb
    by_cases hi : 0 ≤ i
    · rw [show (-i).toNat = 0 by omega, Nat.pow_zero, Nat.div_one, Nat.shiftLeft_eq] at hC
      exact ofInt_num (m := m) (k := i.toNat) (by rw [hnat, hC]) h3 (by omega)
    · refine ofInt_num (m := C) (k := 0) (by rw [hnat, Nat.pow_zero, Nat.mul_one]) ?_ (by omega)
      rw [show i.toNat = 0 by omega, Nat.shiftLeft_zero] at hC
      have : C ≤ m := by rw [hC]; exact Nat.div_le_self _ _
      omega

/-- Cut down, out of cut towards zero. -/
theorem down_of_zero (v : Int) : v / (Q : Int) = if v < v.tdiv (Q : Int) * Q then v.tdiv (Q : Int) - 1 else v.tdiv (Q : Int) := by
  have hQ := Q_pos
  have e := Int.mul_tdiv_add_tmod v (Q : Int)
  have e1 := Int.tmod_lt_of_pos v (show (0 : Int) < Q by omega)
  have e2 := Int.lt_tmod_of_pos v (show (0 : Int) < Q by omega)
  rw [Int.mul_comm] at e
  generalize v.tmod (Q : Int) = r at *
  have f1 := Int.mul_ediv_add_emod v (Q : Int)
  have f2 := Int.emod_nonneg v (show (Q : Int) ≠ 0 by omega)
  have f3 := Int.emod_lt_of_pos v (show (0 : Int) < Q by omega)
  rw [Int.mul_comm] at f1
  generalize v % (Q : Int) = q at *
  by_cases h : v < v.tdiv (Q : Int) * Q
  · rw [if_pos h]
    have g : (v.tdiv (Q : Int) - 1) * Q = v.tdiv (Q : Int) * Q - Q := by rw [Int.sub_mul, Int.one_mul]
    refine Int.le_antisymm ?_ ?_
    · have : v / (Q : Int) < v.tdiv (Q : Int) := Int.ediv_lt_of_lt_mul (by omega) h
      omega
    · rw [Int.le_ediv_iff_mul_le (by omega)]; omega
  · rw [if_neg h]
    refine Int.le_antisymm ?_ ?_
    · have : v / (Q : Int) < v.tdiv (Q : Int) + 1 := Int.ediv_lt_of_lt_mul (by omega) (by rw [Int.add_mul, Int.one_mul]; omega)
      omega
    · rw [Int.le_ediv_iff_mul_le (by omega)]; omega
end Flt

set_option maxHeartbeats 400000 in
theorem rfloat_nan {x : Nat} {s : Bool} {f : Nat} (h : Ieee.double.read x = .nan s f) (w : World) : Calls Try.prog 26 #[.float .f64 x] w fun e w' => e = .returned (.int .i64 (Flt.flt x)) ∧ w = w' := by
  have e : Flt.flt x = 0 := by unfold Flt.flt; rw [h]
  have c0 : (FloatKind.f64.format.order x x != some .eq) = true := by
    have : FloatKind.f64.format.order x x = none := Flt.order_nan_left h
    rw [this]; rfl
  rw [e]
  clear e h
  go_enter Try.func26, Try.ntmps26
  go_wp2_with fail
  go_ret
  exact ⟨rfl, rfl⟩

set_option maxHeartbeats 400000 in
theorem rfloat_hi {x : Nat} (w : World) (c0 : (FloatKind.f64.format.order x x != some .eq) = false)
    (c1 : (FloatKind.f64.format.order x 4800837202776948736 == some .gt || FloatKind.f64.format.order x 4800837202776948736 == some .eq) = true) :
    Calls Try.prog 26 #[.float .f64 x] w fun e w' => e = .returned (.int .i64 9223372036854775807) ∧ w = w' := by
  go_enter Try.func26, Try.ntmps26
  go_wp2_with fail
  go_ret
  exact ⟨rfl, rfl⟩

set_option maxHeartbeats 400000 in
theorem rfloat_lo {x : Nat} (w : World) (c0 : (FloatKind.f64.format.order x x != some .eq) = false)
    (c1 : (FloatKind.f64.format.order x 4800837202776948736 == some .gt || FloatKind.f64.format.order x 4800837202776948736 == some .eq) = false)
    (c2 : (FloatKind.f64.format.order x 14024209239631724544 == some .lt || FloatKind.f64.format.order x 14024209239631724544 == some .eq) = true) :
    Calls Try.prog 26 #[.float .f64 x] w fun e w' => e = .returned (.int .i64 (-9223372036854775808)) ∧ w = w' := by
  go_enter Try.func26, Try.ntmps26
  go_wp2_with fail
  go_ret
  exact ⟨rfl, rfl⟩

set_option maxHeartbeats 800000 in
theorem rfloat_mid {x y : Nat} {n : Int} {b : Bool} (w : World) (c0 : (FloatKind.f64.format.order x x != some .eq) = false)
    (c1 : (FloatKind.f64.format.order x 4800837202776948736 == some .gt || FloatKind.f64.format.order x 4800837202776948736 == some .eq) = false)
    (c2 : (FloatKind.f64.format.order x 14024209239631724544 == some .lt || FloatKind.f64.format.order x 14024209239631724544 == some .eq) = false)
    (hm : floatBits .mul .f64 x 4697254411347427328 = some y) (hc : floatToIntVal .f64 y .i64 = some n) (n1 : -9223372036854775807 ≤ n) (n2 : n ≤ 9223372036854775807)
    (c3 : (FloatKind.f64.format.order (floatOfInt .f64 n) y == some .gt) = b) :
    Calls Try.prog 26 #[.float .f64 x] w fun e w' => e = .returned (.int .i64 (if b = true then n - 1 else n)) ∧ w = w' := by
  have hmul := fun w => run_float_arith (P := Try.prog) w .mul 28 .f64 x 4697254411347427328 y hm
  have hcon := fun w => run_convert_float_int (P := Try.prog) w 28 2 .f64 .i64 y n (by rw [Try.underlying28]; rfl) Try.underlying2 hc
  have hcon2 := fun w => run_convert_int_float (P := Try.prog) w 2 28 .i64 .f64 n (by rw [Try.underlying2]; rfl) Try.underlying28
  clear hm hc
  cases b
  all_goals
    go_enter Try.func26, Try.ntmps26
    go_wp2_with fail
    go_ret
    exact ⟨rfl, rfl⟩

theorem rfloat_any (x : Nat) (w : World) : Calls Try.prog 26 #[.float .f64 x] w fun e w' => e = .returned (.int .i64 (Flt.flt x)) ∧ w = w' := by
  rcases Flt.read_cases x with ⟨z, h⟩ | ⟨s, h⟩ | ⟨s, f, h⟩
  · rw [Flt.flt_num h]
    have c1 : (FloatKind.f64.format.order x 4800837202776948736 == some .gt || FloatKind.f64.format.order x 4800837202776948736 == some .eq) = decide (8796093022208 * (Flt.Q : Int) ≤ z) := Flt.cmp_ge h Flt.num_2p43
    have c2 : (FloatKind.f64.format.order x 14024209239631724544 == some .lt || FloatKind.f64.format.order x 14024209239631724544 == some .eq) = decide (z ≤ -(8796093022208 * (Flt.Q : Int))) := Flt.cmp_le h Flt.num_m2p43
    by_cases h1 : 8796093022208 * (Flt.Q : Int) ≤ z
    · rw [decide_eq_true h1] at c1
      have e : Flt.fltZ z = 9223372036854775807 := by unfold Flt.fltZ; rw [if_pos h1]
      rw [e]
      exact rfloat_hi w (self_ne h) c1
    · rw [decide_eq_false h1] at c1
      by_cases h2 : z ≤ -(8796093022208 * (Flt.Q : Int))
      · rw [decide_eq_true h2] at c2
        have e : Flt.fltZ z = -9223372036854775808 := by unfold Flt.fltZ; rw [if_neg h1, if_pos h2]
        rw [e]
        exact rfloat_lo w (self_ne h) c1 c2
      · rw [decide_eq_false h2] at c2
        obtain ⟨y, hy1, hy2, e, e1, e2⟩ := Flt.flt_mid h (by omega) (by omega)
        have hQ := Flt.Q_pos
        have hd := Flt.down_of_zero (z * 1048576)
        have hT := Flt.tdiv_float hy2 (by omega)
        have hI : (Ieee.double.read y).toInt .zero = some ((z * 1048576).tdiv (Flt.Q : Int)) := Flt.toInt_num hy2
        have g := Flt.cmp_gtr' hT hy2
        have hlo : -9223372036854775808 < (z * 1048576).tdiv (Flt.Q : Int) ∧ (z * 1048576).tdiv (Flt.Q : Int) ≤ 9223372036854775807 := by
          have t1 : ((z * 1048576).tdiv (Flt.Q : Int)).natAbs < 9223372036854775808 := by
            rw [Int.natAbs_tdiv, Int.natAbs_natCast]
            exact Nat.div_lt_of_lt_mul (by omega)
          omega
        have hc : floatToIntVal .f64 y .i64 = some ((z * 1048576).tdiv (Flt.Q : Int)) := by
          unfold floatToIntVal
          have e' : (FloatKind.f64.decode y).toInt .zero = some ((z * 1048576).tdiv (Flt.Q : Int)) := hI
          rw [e']
          simp only
          rw [if_pos]
          exact ⟨Int.le_of_lt hlo.1, hlo.2⟩
        rw [e, hd]
        have hr := rfloat_mid w (self_ne h) c1 c2 hy1 hc (by omega) hlo.2 g
        by_cases hb : z * 1048576 < (z * 1048576).tdiv (Flt.Q : Int) * Flt.Q
        · rw [decide_eq_true hb, if_pos rfl] at hr
          rw [if_pos hb]
          exact hr
        · rw [decide_eq_false hb, if_neg (by decide)] at hr
          rw [if_neg hb]
          exact hr
  · have c0 : (FloatKind.f64.format.order x x != some .eq) = false := by
      have : FloatKind.f64.format.order x x = some .eq := Flt.order_inf_self h
      rw [this]; rfl
    have e1 : FloatKind.f64.format.order x 4800837202776948736 = some (if s then .lt else .gt) := Flt.order_inf_num h Flt.num_2p43
    have e2 : FloatKind.f64.format.order x 14024209239631724544 = some (if s then .lt else .gt) := Flt.order_inf_num h Flt.num_m2p43
    cases s with
    | false =>
      have e : Flt.flt x = 9223372036854775807 := by unfold Flt.flt; rw [h]; rfl
      rw [e]
      exact rfloat_hi w c0 (by rw [e1]; rfl)
    | true =>
      have e : Flt.flt x = -9223372036854775808 := by unfold Flt.flt; rw [h]; rfl
      rw [e]
      exact rfloat_lo w c0 (by rw [e1]; rfl) (by rw [e2]; rfl)
  · exact rfloat_nan h w

end Go.Proofs.Ytlbefohabphjlaa
