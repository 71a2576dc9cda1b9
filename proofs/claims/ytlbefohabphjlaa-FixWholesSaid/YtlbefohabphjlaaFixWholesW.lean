/-
  THE WALK of treadmilllaw1.FixWholes: whole numbers are added, taken away, multiplied and divided as whole numbers are.
-/
import Derived.Test.YtlbefohabphjlaaFixMask
import Derived.Deep.QuietTactic
import Derived.BigQuiet
namespace Go.Proofs.Ytlbefohabphjlaa
open Go.RowKit

namespace Flt
open Ieee
/-- A whole number's float and its fixed-point float are one number. -/
theorem real_whole (x : Int) (h : x.natAbs < 1048576) : (double.order (real (x * 1048576)) (floatOfInt .f64 x) == some .eq) = true ∧ flt (floatOfInt .f64 x) = x * 1048576 := by
  have hQ := Q_pos
  obtain ⟨t, -, ht, ht2⟩ := real_num (n := x * 1048576) (by omega)
  have hx : Num (floatOfInt .f64 x) (x * Q) := ofInt_small (by omega)
  have e : t = x * Q := by
    rw [Int.mul_right_comm] at ht2
    exact Int.eq_of_mul_eq_mul_right (by omega) ht2
  constructor
  · rw [order_num ht hx, e, cmp_eq]; rfl
  · rw [flt_num hx]
    unfold fltZ
    have h1 : x * (Q : Int) ≤ 1048576 * Q := Int.mul_le_mul_of_nonneg_right (by omega) (by omega)
    have h2 : -1048576 * (Q : Int) ≤ x * Q := Int.mul_le_mul_of_nonneg_right (by omega) (by omega)
    rw [if_neg (by omega), if_neg (by omega), Int.mul_right_comm, Int.mul_ediv_cancel _ (by omega)]
end Flt

theorem i64_rem (a m : Int) (hm : 0 < m) : ∃ x, a.tmod m = x ∧ -m < x ∧ x < m := by
  refine ⟨_, rfl, ?_, ?_⟩
  · have := Int.lt_tmod_of_pos a hm; omega
  · exact Int.tmod_lt_of_pos a hm

/-- What the walk of FixWholes takes for granted: of two numbers, their product. -/
structure WholesAt (x y P : Int) : Prop where
  wx : Fx.whole x = x * 1048576
  wy : Fx.whole y = y * 1048576
  a : Fx.add (x * 1048576) (y * 1048576) = (x + y) * 1048576
  a' : Fx.whole (x + y) = (x + y) * 1048576
  s : Fx.sub (x * 1048576) (y * 1048576) = (x - y) * 1048576
  s' : Fx.whole (x - y) = (x - y) * 1048576
  m : Fx.mul (x * 1048576) (y * 1048576) = P * 1048576
  m' : Fx.whole P = P * 1048576
  i : Fx.int (P * 1048576) = P
  f : Flt.flt (floatOfInt .f64 x) = x * 1048576

theorem div_q (a b r : Int) (w : World) (ha : In a) (hb : In b) (h : Fx.div a b = r) : Calls Try.prog 21 #[.int .i64 a, .int .i64 b] w fun e w' => e = .returned (.int .i64 r) ∧ ∃ n, w' = w.drewN n := by
  have := div_any a b w ha.1 ha.2 hb.1 hb.2
  rw [h] at this
  exact this
theorem whole_q (a r : Int) (w : World) (ha : In a) (h : Fx.whole a = r) : Calls Try.prog 18 #[.int .i64 a] w fun e w' => e = .returned (.int .i64 r) ∧ ∃ n, w' = w.drewN n :=
  (whole_at a r w ha h).mono fun _ _ ⟨he, hw⟩ => ⟨he, 0, hw.symm⟩

set_option maxHeartbeats 4000000 in
theorem fixWholes_tail0 (a b x y P : Int) (w : World) (hx : a.tmod 1048576 = x) (hx1 : -1048576 < x) (hx2 : x < 1048576) (hy : b.tmod 1048576 = y) (hy1 : -1048576 < y) (hy2 : y < 1048576)
    (H : Hid (WholesAt x y P)) (hP : x * y = P) (hP1 : -1099511627776 < P) (hP2 : P < 1099511627776) (hr : (FloatKind.f64.format.order (Flt.real (x * 1048576)) (floatOfInt .f64 x) == some .eq) = true)
    (hz : (y != 0) = false) :
    Calls Try.prog 10 #[.int .i64 a, .int .i64 b] w fun e w' => e = .returned (.bool true) ∧ Grown w w' := by
  have hcon := fun w => run_convert_int_float (P := Try.prog) w 2 28 .i64 .f64 x (by rw [Try.underlying2]; rfl) Try.underlying28
  go_enter Try.func10, Try.ntmps10
  go_wp2_with fail
  refine (whole_at _ _ _ (in_mk (by omega) (by omega)) H.out.wx).mono ?_; rintro e w' ⟨rfl, rfl⟩
  go_wp2_with fail
  refine (whole_at _ _ _ (in_mk (by omega) (by omega)) H.out.wy).mono ?_; rintro e w' ⟨rfl, rfl⟩
  go_wp2_with fail
  go_quiet (fail)
  go_wp2_with fail
  refine (told_any _).mono ?_; rintro e w2 ⟨rfl, g2⟩
  go_wp2_with fail
  refine (add_at _ _ _ _ (in_mk (by omega) (by omega)) (in_mk (by omega) (by omega)) H.out.a).mono ?_; rintro e w' ⟨rfl, rfl⟩
  go_wp2_with fail
  refine (whole_at _ _ _ (in_mk (by omega) (by omega)) H.out.a').mono ?_; rintro e w' ⟨rfl, rfl⟩
  go_wp2_with fail
  refine (sub_at _ _ _ _ (in_mk (by omega) (by omega)) (in_mk (by omega) (by omega)) H.out.s).mono ?_; rintro e w' ⟨rfl, rfl⟩
  go_wp2_with fail
  refine (whole_at _ _ _ (in_mk (by omega) (by omega)) H.out.s').mono ?_; rintro e w' ⟨rfl, rfl⟩
  go_wp2_with fail
  refine (mul_at _ _ _ _ (in_mk (by omega) (by omega)) (in_mk (by omega) (by omega)) H.out.m).mono ?_; rintro e w' ⟨rfl, rfl⟩
  go_wp2_with fail
  refine (whole_at _ _ _ (in_mk (by omega) (by omega)) H.out.m').mono ?_; rintro e w' ⟨rfl, rfl⟩
  go_wp2_with fail
  refine (mul_at _ _ _ _ (in_mk (by omega) (by omega)) (in_mk (by omega) (by omega)) H.out.m).mono ?_; rintro e w' ⟨rfl, rfl⟩
  go_wp2_with fail
  refine (int_at _ _ _ H.out.i).mono ?_; rintro e w' ⟨rfl, rfl⟩
  go_wp2_with fail
  refine (real_call (by omega) _).mono ?_; rintro e w' ⟨rfl, rfl⟩
  go_wp2_with fail
  refine (float_at _ _ _ H.out.f).mono ?_; rintro e w' ⟨rfl, rfl⟩
  go_wp2_with fail
  go_ret
  exact ⟨rfl, g2⟩

set_option maxHeartbeats 4000000 in
theorem fixWholes_tail1 (a b x y P : Int) (w : World) (hx : a.tmod 1048576 = x) (hx1 : -1048576 < x) (hx2 : x < 1048576) (hy : b.tmod 1048576 = y) (hy1 : -1048576 < y) (hy2 : y < 1048576)
    (H : Hid (WholesAt x y P)) (hP : x * y = P) (hP1 : -1099511627776 < P) (hP2 : P < 1099511627776) (hr : (FloatKind.f64.format.order (Flt.real (x * 1048576)) (floatOfInt .f64 x) == some .eq) = true)
    (hz : (y != 0) = true) (hz' : y ≠ 0) (hr2 : (x.tmod y == 0) = false) :
    Calls Try.prog 10 #[.int .i64 a, .int .i64 b] w fun e w' => e = .returned (.bool true) ∧ Grown w w' := by
  have hcon := fun w => run_convert_int_float (P := Try.prog) w 2 28 .i64 .f64 x (by rw [Try.underlying2]; rfl) Try.underlying28
  go_enter Try.func10, Try.ntmps10
  go_wp2_with fail
  refine (whole_at _ _ _ (in_mk (by omega) (by omega)) H.out.wx).mono ?_; rintro e w' ⟨rfl, rfl⟩
  go_wp2_with fail
  refine (whole_at _ _ _ (in_mk (by omega) (by omega)) H.out.wy).mono ?_; rintro e w' ⟨rfl, rfl⟩
  go_wp2_with fail
  go_quiet (fail)
  go_wp2_with fail
  refine (told_any _).mono ?_; rintro e w2 ⟨rfl, g2⟩
  go_wp2_with fail
  refine (add_at _ _ _ _ (in_mk (by omega) (by omega)) (in_mk (by omega) (by omega)) H.out.a).mono ?_; rintro e w' ⟨rfl, rfl⟩
  go_wp2_with fail
  refine (whole_at _ _ _ (in_mk (by omega) (by omega)) H.out.a').mono ?_; rintro e w' ⟨rfl, rfl⟩
  go_wp2_with fail
  refine (sub_at _ _ _ _ (in_mk (by omega) (by omega)) (in_mk (by omega) (by omega)) H.out.s).mono ?_; rintro e w' ⟨rfl, rfl⟩
  go_wp2_with fail
  refine (whole_at _ _ _ (in_mk (by omega) (by omega)) H.out.s').mono ?_; rintro e w' ⟨rfl, rfl⟩
  go_wp2_with fail
  refine (mul_at _ _ _ _ (in_mk (by omega) (by omega)) (in_mk (by omega) (by omega)) H.out.m).mono ?_; rintro e w' ⟨rfl, rfl⟩
  go_wp2_with fail
  refine (whole_at _ _ _ (in_mk (by omega) (by omega)) H.out.m').mono ?_; rintro e w' ⟨rfl, rfl⟩
  go_wp2_with fail
  refine (mul_at _ _ _ _ (in_mk (by omega) (by omega)) (in_mk (by omega) (by omega)) H.out.m).mono ?_; rintro e w' ⟨rfl, rfl⟩
  go_wp2_with fail
  refine (int_at _ _ _ H.out.i).mono ?_; rintro e w' ⟨rfl, rfl⟩
  go_wp2_with fail
  refine (real_call (by omega) _).mono ?_; rintro e w' ⟨rfl, rfl⟩
  go_wp2_with fail
  refine (float_at _ _ _ H.out.f).mono ?_; rintro e w' ⟨rfl, rfl⟩
  go_wp2_with fail
  go_ret
  exact ⟨rfl, g2⟩

set_option maxHeartbeats 4000000 in
theorem fixWholes_tail2 (a b x y P : Int) (w : World) (hx : a.tmod 1048576 = x) (hx1 : -1048576 < x) (hx2 : x < 1048576) (hy : b.tmod 1048576 = y) (hy1 : -1048576 < y) (hy2 : y < 1048576)
    (H : Hid (WholesAt x y P)) (hP : x * y = P) (hP1 : -1099511627776 < P) (hP2 : P < 1099511627776) (hr : (FloatKind.f64.format.order (Flt.real (x * 1048576)) (floatOfInt .f64 x) == some .eq) = true)
    (hz : (y != 0) = true) (hz' : y ≠ 0) (hr2 : (x.tmod y == 0) = true) (k : Int) (hk : x.tdiv y = k) (hk1 : -1048576 < k) (hk2 : k < 1048576) (hd : Hid (Fx.div (x * 1048576) (y * 1048576) = k * 1048576)) (hk3 : Hid (Fx.whole k = k * 1048576)) :
    Calls Try.prog 10 #[.int .i64 a, .int .i64 b] w fun e w' => e = .returned (.bool true) ∧ Grown w w' := by
  have hcon := fun w => run_convert_int_float (P := Try.prog) w 2 28 .i64 .f64 x (by rw [Try.underlying2]; rfl) Try.underlying28
  go_enter Try.func10, Try.ntmps10
  go_wp2_with fail
  refine (whole_at _ _ _ (in_mk (by omega) (by omega)) H.out.wx).mono ?_; rintro e w' ⟨rfl, rfl⟩
  go_wp2_with fail
  refine (whole_at _ _ _ (in_mk (by omega) (by omega)) H.out.wy).mono ?_; rintro e w' ⟨rfl, rfl⟩
  go_wp2_with fail
  go_quiet ((first | (go_at_call 21; exact Calls.quiet_of (div_q _ _ _ _ (in_mk (by omega) (by omega)) (in_mk (by omega) (by omega)) hd.out)) | (go_at_call 18; exact Calls.quiet_of (whole_q _ _ _ (in_mk (by omega) (by omega)) hk3.out))))
  go_wp2_with fail
  refine (told_any _).mono ?_; rintro e w2 ⟨rfl, g2⟩
  go_wp2_with fail
  refine (add_at _ _ _ _ (in_mk (by omega) (by omega)) (in_mk (by omega) (by omega)) H.out.a).mono ?_; rintro e w' ⟨rfl, rfl⟩
  go_wp2_with fail
  refine (whole_at _ _ _ (in_mk (by omega) (by omega)) H.out.a').mono ?_; rintro e w' ⟨rfl, rfl⟩
  go_wp2_with fail
  refine (sub_at _ _ _ _ (in_mk (by omega) (by omega)) (in_mk (by omega) (by omega)) H.out.s).mono ?_; rintro e w' ⟨rfl, rfl⟩
  go_wp2_with fail
  refine (whole_at _ _ _ (in_mk (by omega) (by omega)) H.out.s').mono ?_; rintro e w' ⟨rfl, rfl⟩
  go_wp2_with fail
  refine (mul_at _ _ _ _ (in_mk (by omega) (by omega)) (in_mk (by omega) (by omega)) H.out.m).mono ?_; rintro e w' ⟨rfl, rfl⟩
  go_wp2_with fail
  refine (whole_at _ _ _ (in_mk (by omega) (by omega)) H.out.m').mono ?_; rintro e w' ⟨rfl, rfl⟩
  go_wp2_with fail
  refine (mul_at _ _ _ _ (in_mk (by omega) (by omega)) (in_mk (by omega) (by omega)) H.out.m).mono ?_; rintro e w' ⟨rfl, rfl⟩
  go_wp2_with fail
  refine (int_at _ _ _ H.out.i).mono ?_; rintro e w' ⟨rfl, rfl⟩
  go_wp2_with fail
  refine (real_call (by omega) _).mono ?_; rintro e w' ⟨rfl, rfl⟩
  go_wp2_with fail
  refine (float_at _ _ _ H.out.f).mono ?_; rintro e w' ⟨rfl, rfl⟩
  go_wp2_with fail
  go_ret
  exact ⟨rfl, g2⟩

theorem fixWholes_walk (a b : Int) (w : World) (_a1 : -9223372036854775808 ≤ a) (_a2 : a ≤ 9223372036854775807) (_b1 : -9223372036854775808 ≤ b) (_b2 : b ≤ 9223372036854775807) :
    Calls Try.prog 10 #[.int .i64 a, .int .i64 b] w fun e w' => e = .returned (.bool true) ∧ Grown w w' := by
  obtain ⟨x, hx, hx1, hx2⟩ := i64_rem a 1048576 (by omega)
  obtain ⟨y, hy, hy1, hy2⟩ := i64_rem b 1048576 (by omega)
  have hP := Fx.wholes_prod hx1 hx2 hy1 hy2
  have hr := Flt.real_whole x (by omega)
  have hm := Fx.wholes_mul hx1 hx2 hy1 hy2
  have H : WholesAt x y (x * y) := {
    wx := Fx.sat_eq (by omega) (by omega)
    wy := Fx.sat_eq (by omega) (by omega)
    a := by unfold Fx.add; rw [Int.add_mul]; exact Fx.sat_eq (by omega) (by omega)
    a' := Fx.sat_eq (by omega) (by omega)
    s := by unfold Fx.sub; rw [Int.sub_mul]; exact Fx.sat_eq (by omega) (by omega)
    s' := Fx.sat_eq (by omega) (by omega)
    m := hm
    m' := Fx.sat_eq (by omega) (by omega)
    i := by unfold Fx.int; rw [Int.mul_ediv_cancel _ (by omega)]
    f := hr.2 }
  by_cases hz : y = 0
  · exact fixWholes_tail0 a b x y (x * y) w hx hx1 hx2 hy hy1 hy2 H rfl hP.1 hP.2 hr.1 (by simp [hz])
  · by_cases hm0 : x.tmod y = 0
    · have hk : (x.tdiv y).natAbs ≤ x.natAbs := by
        rw [Int.natAbs_tdiv]
        exact Nat.div_le_self _ _
      exact fixWholes_tail2 a b x y (x * y) w hx hx1 hx2 hy hy1 hy2 H rfl hP.1 hP.2 hr.1 (by simp [hz]) hz (by simp [hm0]) (x.tdiv y) rfl (by omega) (by omega) (Fx.wholes_div hx1 hx2 hz hm0) (Fx.sat_eq (by omega) (by omega))
    · exact fixWholes_tail1 a b x y (x * y) w hx hx1 hx2 hy hy1 hy2 H rfl hP.1 hP.2 hr.1 (by simp [hz]) hz (by simp [hm0])

end Go.Proofs.Ytlbefohabphjlaa
