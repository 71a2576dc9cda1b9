/-
  THE WALK of treadmilllaw1.FixFloats: a float is at least its fixed-point number, and less than one part above it; a number's float comes back.
-/
import Derived.Test.YtlbefohabphjlaaFixMask
namespace Go.Proofs.Ytlbefohabphjlaa
open Go.RowKit

namespace Flt
open Ieee
theorem num_2p32 : Num 4751297606875873280 (4294967296 * (Q : Int)) :=
  const_whole (s := false) (m := 4503599627370496) (i := -20) 4294967296 (by decide +kernel) (by omega) (by omega) (by omega) (by decide +kernel)
theorem num_m2p32 : Num 13974669643730649088 (-4294967296 * (Q : Int)) :=
  const_whole (s := true) (m := 4503599627370496) (i := -20) (-4294967296) (by decide +kernel) (by omega) (by omega) (by omega) (by decide +kernel)
theorem cmp_lss {x y : Nat} {z t : Int} (hx : Num x z) (hy : Num y t) : (double.order x y == some .lt) = decide (z < t) := by
  rw [order_num hx hy]
  rcases Int.lt_trichotomy z t with h | h | h
  · rw [cmp_lt h]; simp [h]
  · subst h; rw [cmp_eq]; simp
  · rw [cmp_gt h]; have : ¬ z < t := by omega
    simp [this]
theorem cmp_gtr {x y : Nat} {z t : Int} (hx : Num x z) (hy : Num y t) : (double.order x y == some .gt) = decide (t < z) := by
  rw [order_num hx hy]
  rcases Int.lt_trichotomy z t with h | h | h
  · rw [cmp_lt h]; have : ¬ t < z := by omega
    simp [this]
  · subst h; rw [cmp_eq]; simp
  · rw [cmp_gt h]; simp [h]

/-- A float between its fixed-point number and one part more. -/
theorem between {x : Nat} {z : Int} (hx : Num x z) (h1 : -4294967296 * (Q : Int) < z) (h2 : z < 4294967296 * (Q : Int)) :
    ∃ a, flt x = a ∧ -4503599627370496 ≤ a ∧ a < 4503599627370496 ∧ (double.order (real a) x == some .lt || double.order (real a) x == some .eq) = true ∧ (double.order x (real (a + 1)) == some .lt) = true := by
  have hQ := Q_pos
  obtain ⟨a, ha⟩ : ∃ a, a = z * 1048576 / (Q : Int) := ⟨_, rfl⟩
  have a1 : -4503599627370496 ≤ a := by rw [ha, Int.le_ediv_iff_mul_le (by omega)]; omega
  have a2 : a < 4503599627370496 := by rw [ha]; exact Int.ediv_lt_of_lt_mul (by omega) (by omega)
  have e := Int.mul_ediv_add_emod (z * 1048576) (Q : Int)
  have e1 := Int.emod_nonneg (z * 1048576) (show (Q : Int) ≠ 0 by omega)
  have e2 := Int.emod_lt_of_pos (z * 1048576) (show (0 : Int) < Q by omega)
  rw [← ha, Int.mul_comm] at e
  obtain ⟨t, -, ht, ht2⟩ := real_num (n := a) (by omega)
  obtain ⟨t', -, ht', ht2'⟩ := real_num (n := a + 1) (by omega)
  rw [Int.add_mul] at ht2'
  refine ⟨a, ?_, a1, a2, ?_, ?_⟩
  · rw [flt_num hx]
    unfold fltZ
    rw [if_neg (by omega), if_neg (by omega), ← ha]
  · rw [cmp_le ht hx]; exact decide_eq_true (by omega)
  · rw [cmp_lss hx ht']; exact decide_eq_true (by omega)
end Flt

theorem i64_rem (a m : Int) (hm : 0 < m) : ∃ x, a.tmod m = x ∧ -m < x ∧ x < m := by
  refine ⟨_, rfl, ?_, ?_⟩
  · have := Int.lt_tmod_of_pos a hm; omega
  · exact Int.tmod_lt_of_pos a hm

set_option maxHeartbeats 2000000 in
theorem fixFloats_out (x : Nat) (n m : Int) (w : World) (hm : n.tmod 9007199254740992 = m) (hm1 : -9007199254740992 < m) (hm2 : m < 9007199254740992) (hf : Hid (Flt.flt (Flt.real m) = m))
    (hc : (FloatKind.f64.format.order x 13974669643730649088 == some .gt) = false ∨ ((FloatKind.f64.format.order x 13974669643730649088 == some .gt) = true ∧ (FloatKind.f64.format.order x 4751297606875873280 == some .lt) = false)) :
    Calls Try.prog 7 #[.float .f64 x, .int .i64 n] w fun e w' => e = .returned (.bool true) ∧ Grown w w' := by
  rcases hc with c1 | ⟨c1, c2⟩
  all_goals
    go_enter Try.func7, Try.ntmps7
    go_wp2_with fail
    refine (told_any _).mono ?_; rintro e w2 ⟨rfl, g2⟩
    go_wp2_with fail
    refine (real_call (by omega) _).mono ?_; rintro e w' ⟨rfl, rfl⟩
    go_wp2_with fail
    refine (float_at _ _ _ hf.out).mono ?_; rintro e w' ⟨rfl, rfl⟩
    go_wp2_with fail
    go_ret
    exact ⟨rfl, g2⟩

set_option maxHeartbeats 2000000 in
theorem fixFloats_in (x : Nat) (n m a : Int) (w : World) (hm : n.tmod 9007199254740992 = m) (hm1 : -9007199254740992 < m) (hm2 : m < 9007199254740992) (hf : Hid (Flt.flt (Flt.real m) = m))
    (c1 : (FloatKind.f64.format.order x 13974669643730649088 == some .gt) = true) (c2 : (FloatKind.f64.format.order x 4751297606875873280 == some .lt) = true)
    (ha : Hid (Flt.flt x = a)) (a1 : -4503599627370496 ≤ a) (a2 : a < 4503599627370496)
    (c3 : (FloatKind.f64.format.order (Flt.real a) x == some .lt || FloatKind.f64.format.order (Flt.real a) x == some .eq) = true)
    (c4 : (FloatKind.f64.format.order x (Flt.real (a + 1)) == some .lt) = true) :
    Calls Try.prog 7 #[.float .f64 x, .int .i64 n] w fun e w' => e = .returned (.bool true) ∧ Grown w w' := by
  go_enter Try.func7, Try.ntmps7
  go_wp2_with fail
  refine (float_at _ _ _ ha.out).mono ?_; rintro e w' ⟨rfl, rfl⟩
  go_wp2_with fail
  refine (told_any _).mono ?_; rintro e w2 ⟨rfl, g2⟩
  go_wp2_with fail
  refine (real_call (by omega) _).mono ?_; rintro e w' ⟨rfl, rfl⟩
  go_wp2_with fail
  refine (real_call (by omega) _).mono ?_; rintro e w' ⟨rfl, rfl⟩
  go_wp2_with fail
  refine (real_call (by omega) _).mono ?_; rintro e w' ⟨rfl, rfl⟩
  go_wp2_with fail
  refine (float_at _ _ _ hf.out).mono ?_; rintro e w' ⟨rfl, rfl⟩
  go_wp2_with fail
  go_ret
  exact ⟨rfl, g2⟩

theorem fixFloats_walk (x : Nat) (n : Int) (w : World) (_n1 : -9223372036854775808 ≤ n) (_n2 : n ≤ 9223372036854775807) :
    Calls Try.prog 7 #[.float .f64 x, .int .i64 n] w fun e w' => e = .returned (.bool true) ∧ Grown w w' := by
  obtain ⟨m, hm, hm1, hm2⟩ := i64_rem n 9007199254740992 (by omega)
  have hf : Flt.flt (Flt.real m) = m := Flt.flt_real (by omega)
  rcases Flt.read_cases x with ⟨z, h⟩ | ⟨s, h⟩ | ⟨s, f, h⟩
  · have c1 : (FloatKind.f64.format.order x 13974669643730649088 == some .gt) = decide (-4294967296 * (Flt.Q : Int) < z) := Flt.cmp_gtr h Flt.num_m2p32
    have c2 : (FloatKind.f64.format.order x 4751297606875873280 == some .lt) = decide (z < 4294967296 * (Flt.Q : Int)) := Flt.cmp_lss h Flt.num_2p32
    by_cases h1 : -4294967296 * (Flt.Q : Int) < z
    · rw [decide_eq_true h1] at c1
      by_cases h2 : z < 4294967296 * (Flt.Q : Int)
      · rw [decide_eq_true h2] at c2
        obtain ⟨a, ha, a1, a2, c3, c4⟩ := Flt.between h h1 h2
        exact fixFloats_in x n m a w hm hm1 hm2 hf c1 c2 ha a1 a2 c3 c4
      · rw [decide_eq_false h2] at c2
        exact fixFloats_out x n m w hm hm1 hm2 hf (Or.inr ⟨c1, c2⟩)
    · rw [decide_eq_false h1] at c1
      exact fixFloats_out x n m w hm hm1 hm2 hf (Or.inl c1)
  · have e1 : FloatKind.f64.format.order x 13974669643730649088 = some (if s then .lt else .gt) := Flt.order_inf_num h Flt.num_m2p32
    have e2 : FloatKind.f64.format.order x 4751297606875873280 = some (if s then .lt else .gt) := Flt.order_inf_num h Flt.num_2p32
    cases s with
    | true => exact fixFloats_out x n m w hm hm1 hm2 hf (Or.inl (by rw [e1]; rfl))
    | false => exact fixFloats_out x n m w hm hm1 hm2 hf (Or.inr ⟨by rw [e1]; rfl, by rw [e2]; rfl⟩)
  · have e1 : FloatKind.f64.format.order x 13974669643730649088 = none := Flt.order_nan_left h
    exact fixFloats_out x n m w hm hm1 hm2 hf (Or.inl (by rw [e1]; rfl))

end Go.Proofs.Ytlbefohabphjlaa
