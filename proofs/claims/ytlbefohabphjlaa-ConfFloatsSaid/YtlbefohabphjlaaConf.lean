/-
  THE WALKS of conf.Percent and conf.Part: each comes to a plain function of the float's units.
-/
import Derived.Test.YtlbefohabphjlaaFloat
namespace Go.Proofs.Ytlbefohabphjlaa
open Go.RowKit

namespace Flt
open Ieee

/-- conf.Percent of a number of so many units. -/
def pctZ (z : Int) : Int := if z < 10000 * (Q : Int) then z / (Q : Int) else 10000

/-- conf.Percent: the number, whether the collector is on. -/
def pct (x : Nat) : Int × Bool :=
  match double.read x with
  | .nan _ _ => (100, true)
  | .infinity _ => (0, false)
  | .number s m i => if signed s m (i + 1074).toNat < 0 then (0, false) else (pctZ (signed s m (i + 1074).toNat), true)

theorem pct_num {x : Nat} {z : Int} (h : Num x z) : pct x = if z < 0 then (0, false) else (pctZ z, true) := by
  obtain ⟨s, m, i, e, -, -, -, rfl⟩ := h
  unfold pct
  rw [e]
theorem pct_nan {x : Nat} {s : Bool} {f : Nat} (h : double.read x = .nan s f) : pct x = (100, true) := by unfold pct; rw [h]
theorem pct_inf {x : Nat} {s : Bool} (h : double.read x = .infinity s) : pct x = (0, false) := by unfold pct; rw [h]

theorem pctZ_range {z : Int} (h : 0 ≤ z) : 0 ≤ pctZ z ∧ pctZ z ≤ 10000 := by
  have hQ := Q_pos
  unfold pctZ
  by_cases h1 : z < 10000 * (Q : Int)
  · rw [if_pos h1]
    have h2 : 0 ≤ z / (Q : Int) := Int.ediv_nonneg h (by omega)
    have h3 : z / (Q : Int) < 10000 := Int.ediv_lt_of_lt_mul (by omega) h1
    omega
  · rw [if_neg h1]; omega

/-- conf.Part of a number of so many units. -/
def prtZ (z : Int) : Int := if 64 * z < (Q : Int) then 16384 else if (Q : Int) ≤ z then 1048576 else z * 1048576 / (Q : Int)
/-- conf.Part. -/
def prt (x : Nat) : Int :=
  match double.read x with
  | .nan _ _ => 262144
  | .infinity s => if s then 16384 else 1048576
  | .number s m i => prtZ (signed s m (i + 1074).toNat)
theorem prt_num {x : Nat} {z : Int} (h : Num x z) : prt x = prtZ z := by
  obtain ⟨s, m, i, e, -, -, -, rfl⟩ := h
  unfold prt
  rw [e]

theorem num_zero : Num 0 0 := by
  have h := const_whole (x := 0) (s := false) (m := 0) (i := -1074) 0 (by decide +kernel) (by omega) (by omega) (by omega) (by rw [Int.zero_mul, Nat.zero_shiftLeft]; exact (signed_zero _ _).symm)
  rw [Int.zero_mul] at h
  exact h
theorem num_one : Num 4607182418800017408 (Q : Int) := by
  have h := const_whole (x := 4607182418800017408) (s := false) (m := 4503599627370496) (i := -52) 1 (by decide +kernel) (by omega) (by omega) (by omega) (by decide +kernel)
  rw [Int.one_mul] at h
  exact h
theorem num_10000 : Num 4666723172467343360 (10000 * (Q : Int)) :=
  const_whole (s := false) (m := 5497558138880000) (i := -39) 10000 (by decide +kernel) (by omega) (by omega) (by omega) (by decide +kernel)
theorem num_64th : ∃ t : Int, Num 4580160821035794432 t ∧ t * 64 = Q := by
  obtain ⟨t, h1, h2⟩ := const_num (x := 4580160821035794432) (s := false) (m := 4503599627370496) (i := -58) (by decide +kernel) (by omega) (by omega) (by omega)
  refine ⟨t, h1, ?_⟩
  rw [show ((2 ^ (-(-58 : Int)).toNat : Nat) : Int) = 288230376151711744 from by decide +kernel, show signed false (4503599627370496 <<< (-58 : Int).toNat) 0 = 4503599627370496 from by decide +kernel] at h2
  omega

def top : Nat := 2045
theorem top_eq : top = 2045 := rfl

/-- No number is above the greatest float. -/
theorem num_max : ∃ t : Int, Num 9218868437227405311 t ∧ ∀ x z, Num x z → z ≤ t := by
  obtain ⟨t, h1, h2⟩ := const_num (x := 9218868437227405311) (s := false) (m := 9007199254740991) (i := 971) (by decide +kernel) (by omega) (by omega) (by omega)
  refine ⟨t, h1, ?_⟩
  intro x z hx
  obtain ⟨s, m, i, e, a1, a2, a3, a4⟩ := hx
  have ht : t = ((9007199254740991 * 2 ^ top : Nat) : Int) := by
    obtain ⟨s', m', i', e', -, -, -, b4⟩ := h1
    have e'' : double.read 9218868437227405311 = .number false 9007199254740991 971 := by decide +kernel
    rw [e''] at e'
    cases e'
    rw [← b4, signed_eq]
    rw [show ((971 : Int) + 1074).toNat = top by rw [top_eq]; omega]
    simp only [Bool.false_eq_true, if_false, Int.one_mul]
  have hz : z ≤ ((m * 2 ^ (i + 1074).toNat : Nat) : Int) := by
    have := signed_natAbs s m (i + 1074).toNat
    rw [a4] at this
    omega
  have hm : m * 2 ^ (i + 1074).toNat ≤ 9007199254740991 * 2 ^ top := Nat.mul_le_mul (by omega) (Nat.pow_le_pow_right (by omega) (by rw [top_eq]; omega))
  rw [ht]
  exact Int.le_trans hz (Int.ofNat_le.2 hm)

theorem cmp_lss {x y : Nat} {z t : Int} (hx : Num x z) (hy : Num y t) : (double.order x y == some .lt) = decide (z < t) := by
  rw [order_num hx hy]
  rcases Int.lt_trichotomy z t with h | h | h
  · rw [cmp_lt h]; simp [h]
  · subst h; rw [cmp_eq]; simp
  · rw [cmp_gt h]; have : ¬ z < t := by omega
    simp [this]
theorem cmp_gtr {x y : Nat} {z t : Int} (hx : Num x z) (hy : Num y t) : (double.order x y == some .gt) = decide (t < z) := by
  rw [order_num hx hy]
  rcases Int.lt_trichotomy z t with h | h | h
  · rw [cmp_lt h]; have : ¬ t < z := by omega
    simp [this]
  · subst h; rw [cmp_eq]; simp
  · rw [cmp_gt h]; simp [h]
/-- A number above 0 has no sign. -/
theorem neg_of_pos {x : Nat} {z : Int} (h : Num x z) (hz : 0 < z) : (double.read x).neg = false := by
  obtain ⟨s, m, i, e, -, -, -, rfl⟩ := h
  rw [e]
  cases s
  · rfl
  · rw [signed_eq] at hz
    simp only [if_true] at hz
    omega
end Flt

set_option maxHeartbeats 400000 in
theorem isInf_any {x : Nat} {b : Bool} (w : World) (c : (FloatKind.f64.format.order x 9218868437227405311 == some .gt) = b) :
    Calls Try.prog 49 #[.float .f64 x, .int .i64 1] w fun e w' => e = .returned (.bool b) ∧ w = w' := by
  go_enter Try.func49, Try.ntmps49
  go_wp2_with fail
  go_ret
  exact ⟨rfl, rfl⟩

set_option maxHeartbeats 400000 in
theorem pct_nan_walk {x : Nat} (w : World) (c0 : (FloatKind.f64.format.order x x != some .eq) = true) :
    Calls Try.prog 33 #[.float .f64 x] w fun e w' => e = .returned (.tuple #[.int .i64 100, .bool true]) ∧ w = w' := by
  go_enter Try.func33, Try.ntmps33
  go_wp2_with fail
  go_ret2
  exact ⟨rfl, rfl⟩

set_option maxHeartbeats 400000 in
theorem pct_less_walk {x : Nat} (w : World) (c0 : (FloatKind.f64.format.order x x != some .eq) = false) (c1 : (FloatKind.f64.format.order x 0 == some .lt) = true) :
    Calls Try.prog 33 #[.float .f64 x] w fun e w' => e = .returned (.tuple #[.int .i64 0, .bool false]) ∧ w = w' := by
  go_enter Try.func33, Try.ntmps33
  go_wp2_with fail
  go_ret2
  exact ⟨rfl, rfl⟩

set_option maxHeartbeats 400000 in
theorem pct_inf_walk {x : Nat} (w : World) (c0 : (FloatKind.f64.format.order x x != some .eq) = false) (c1 : (FloatKind.f64.format.order x 0 == some .lt) = false)
    (c2 : (FloatKind.f64.format.order x 9218868437227405311 == some .gt) = true) :
    Calls Try.prog 33 #[.float .f64 x] w fun e w' => e = .returned (.tuple #[.int .i64 0, .bool false]) ∧ w = w' := by
  have C := Lib.hid c2
  clear c2
  go_enter Try.func33, Try.ntmps33
  go_wp2_with fail
  refine (isInf_any _ C.out).mono ?_; rintro e w' ⟨rfl, rfl⟩
  go_wp2_with fail
  go_ret2
  exact ⟨rfl, rfl⟩

set_option maxHeartbeats 400000 in
theorem pct_on_walk {x y : Nat} {n z : Int} (w : World) (c0 : (FloatKind.f64.format.order x x != some .eq) = false) (c1 : (FloatKind.f64.format.order x 0 == some .lt) = false)
    (c2 : (FloatKind.f64.format.order x 9218868437227405311 == some .gt) = false)
    (hmin : ∀ w, (Builtin.min_ #[28, 28] 28 #[.float .f64 x, .float .f64 4666723172467343360]).run Try.prog w = .ok (.float .f64 y) w)
    (hy : Flt.Num y z) (hc : floatToIntVal .f64 (Flt.floorW y) .i64 = some n) :
    Calls Try.prog 33 #[.float .f64 x] w fun e w' => e = .returned (.tuple #[.int .i64 n, .bool true]) ∧ w = w' := by
  have C := Lib.hid c2
  have hcon := fun w => run_convert_float_int (P := Try.prog) w 28 3 .f64 .i64 (Flt.floorW y) n (by rw [Try.underlying28]; rfl) Try.underlying3 hc
  clear c2 hc
  go_enter Try.func33, Try.ntmps33
  go_wp2_with fail
  refine (isInf_any _ C.out).mono ?_; rintro e w' ⟨rfl, rfl⟩
  go_wp2_with fail
  refine (floor_any hy _).mono ?_; rintro e w' ⟨rfl, rfl⟩
  go_wp2_with fail
  go_ret2
  exact ⟨rfl, rfl⟩

theorem min_run {x y r : Nat} (w : World) (ts : Array TypeId) (t : TypeId) (h : (FloatKind.f64.format.order x y = some .lt ∧ r = x) ∨ (FloatKind.f64.format.order x y = some .gt ∧ r = y) ∨ (FloatKind.f64.format.order x y = some .eq ∧ (FloatKind.f64.decode x).neg = false ∧ r = y)) :
    (Builtin.min_ ts t #[.float .f64 x, .float .f64 y]).run Try.prog w = .ok (.float .f64 r) w := by
  rcases h with ⟨h, rfl⟩ | ⟨h, rfl⟩ | ⟨h, h2, rfl⟩
  · simp [Builtin.min_, Builtin.min2, h]
  · simp [Builtin.min_, Builtin.min2, h]
  · simp [Builtin.min_, Builtin.min2, h, h2]

theorem percent_any (x : Nat) (w : World) : Calls Try.prog 33 #[.float .f64 x] w fun e w' => e = .returned (.tuple #[.int .i64 (Flt.pct x).1, .bool (Flt.pct x).2]) ∧ w = w' := by
  obtain ⟨tm, hmax, hle⟩ := Flt.num_max
  rcases Flt.read_cases x with ⟨z, h⟩ | ⟨s, h⟩ | ⟨s, f, h⟩
  · rw [Flt.pct_num h]
    have c1 : (FloatKind.f64.format.order x 0 == some .lt) = decide (z < 0) := Flt.cmp_lss h Flt.num_zero
    have c2 : (FloatKind.f64.format.order x 9218868437227405311 == some .gt) = decide (tm < z) := Flt.cmp_gtr h hmax
    have hz := hle x z h
    rw [decide_eq_false (by omega)] at c2
    by_cases h1 : z < 0
    · rw [decide_eq_true h1] at c1
      rw [if_pos h1]
      exact pct_less_walk w (self_ne h) c1
    · rw [decide_eq_false h1] at c1
      rw [if_neg h1]
      have hQ := Flt.Q_pos
      have hr := Flt.pctZ_range (z := z) (by omega)
      have o : FloatKind.f64.format.order x 4666723172467343360 = some (compare z (10000 * (Flt.Q : Int))) := Flt.order_num h Flt.num_10000
      by_cases h2 : z < 10000 * (Flt.Q : Int)
      · have e : Flt.pctZ z = z / (Flt.Q : Int) := by unfold Flt.pctZ; rw [if_pos h2]
        rw [e] at hr ⊢
        rw [Flt.cmp_lt h2] at o
        exact pct_on_walk w (self_ne h) c1 c2 (fun w => min_run w _ _ (Or.inl ⟨o, rfl⟩)) h (conv_whole (Flt.floor_num h) (by omega) (by omega))
      · have e : Flt.pctZ z = 10000 := by unfold Flt.pctZ; rw [if_neg h2]
        rw [e]
        have hf := Flt.floor_num Flt.num_10000
        rw [Int.mul_ediv_cancel _ (by omega)] at hf
        refine pct_on_walk w (self_ne h) c1 c2 (fun w => min_run w _ _ (Or.inr ?_)) Flt.num_10000 (conv_whole hf (by omega) (by omega))
        by_cases h3 : z = 10000 * (Flt.Q : Int)
        · right
          rw [h3, Flt.cmp_eq] at o
          exact ⟨o, Flt.neg_of_pos h (by omega), rfl⟩
        · left
          rw [Flt.cmp_gt (by omega)] at o
          exact ⟨o, rfl⟩
  · rw [Flt.pct_inf h]
    have c0 : (FloatKind.f64.format.order x x != some .eq) = false := by
      have : FloatKind.f64.format.order x x = some .eq := Flt.order_inf_self h
      rw [this]; rfl
    have e1 : FloatKind.f64.format.order x 0 = some (if s then .lt else .gt) := Flt.order_inf_num h Flt.num_zero
    have e2 : FloatKind.f64.format.order x 9218868437227405311 = some (if s then .lt else .gt) := Flt.order_inf_num h hmax
    cases s with
    | true => exact pct_less_walk w c0 (by rw [e1]; rfl)
    | false => exact pct_inf_walk w c0 (by rw [e1]; rfl) (by rw [e2]; rfl)
  · rw [Flt.pct_nan h]
    have c0 : (FloatKind.f64.format.order x x != some .eq) = true := by
      have : FloatKind.f64.format.order x x = none := Flt.order_nan_left h
      rw [this]; rfl
    exact pct_nan_walk w c0


set_option maxHeartbeats 400000 in
theorem prt_nan_walk {x : Nat} (w : World) (c0 : (FloatKind.f64.format.order x x != some .eq) = true) :
    Calls Try.prog 34 #[.float .f64 x] w fun e w' => e = .returned (.int .i64 262144) ∧ w = w' := by
  go_enter Try.func34, Try.ntmps34
  go_wp2_with fail
  go_ret
  exact ⟨rfl, rfl⟩
set_option maxHeartbeats 400000 in
theorem prt_low_walk {x : Nat} (w : World) (c0 : (FloatKind.f64.format.order x x != some .eq) = false) (c1 : (FloatKind.f64.format.order x 4580160821035794432 == some .lt) = true) :
    Calls Try.prog 34 #[.float .f64 x] w fun e w' => e = .returned (.int .i64 16384) ∧ w = w' := by
  go_enter Try.func34, Try.ntmps34
  go_wp2_with fail
  go_ret
  exact ⟨rfl, rfl⟩
set_option maxHeartbeats 400000 in
theorem prt_high_walk {x : Nat} (w : World) (c0 : (FloatKind.f64.format.order x x != some .eq) = false) (c1 : (FloatKind.f64.format.order x 4580160821035794432 == some .lt) = false)
    (c2 : (FloatKind.f64.format.order x 4607182418800017408 == some .gt || FloatKind.f64.format.order x 4607182418800017408 == some .eq) = true) :
    Calls Try.prog 34 #[.float .f64 x] w fun e w' => e = .returned (.int .i64 1048576) ∧ w = w' := by
  go_enter Try.func34, Try.ntmps34
  go_wp2_with fail
  go_ret
  exact ⟨rfl, rfl⟩
set_option maxHeartbeats 400000 in
theorem prt_mid_walk {x : Nat} (w : World) (c0 : (FloatKind.f64.format.order x x != some .eq) = false) (c1 : (FloatKind.f64.format.order x 4580160821035794432 == some .lt) = false)
    (c2 : (FloatKind.f64.format.order x 4607182418800017408 == some .gt || FloatKind.f64.format.order x 4607182418800017408 == some .eq) = false) :
    Calls Try.prog 34 #[.float .f64 x] w fun e w' => e = .returned (.int .i64 (Flt.flt x)) ∧ w = w' := by
  go_enter Try.func34, Try.ntmps34
  go_wp2_with fail
  refine (float_any _ _).mono ?_; rintro e w' ⟨rfl, rfl⟩
  go_wp2_with fail
  go_ret
  exact ⟨rfl, rfl⟩

/-- How a float of so many units stands to 1/64 and 1, and what conf.Part comes to. -/
theorem part_any (x : Nat) (w : World) : Calls Try.prog 34 #[.float .f64 x] w fun e w' => e = .returned (.int .i64 (Flt.prt x)) ∧ w = w' := by
  obtain ⟨t, h64, ht⟩ := Flt.num_64th
  have hQ := Flt.Q_pos
  rcases Flt.read_cases x with ⟨z, h⟩ | ⟨s, h⟩ | ⟨s, f, h⟩
  · rw [Flt.prt_num h]
    have c1 : (FloatKind.f64.format.order x 4580160821035794432 == some .lt) = decide (z < t) := Flt.cmp_lss h h64
    have c2 : (FloatKind.f64.format.order x 4607182418800017408 == some .gt || FloatKind.f64.format.order x 4607182418800017408 == some .eq) = decide ((Flt.Q : Int) ≤ z) := Flt.cmp_ge h Flt.num_one
    by_cases h1 : z < t
    · rw [decide_eq_true h1] at c1
      rw [show Flt.prtZ z = 16384 from by unfold Flt.prtZ; rw [if_pos (by omega)]]
      exact prt_low_walk w (self_ne h) c1
    · rw [decide_eq_false h1] at c1
      by_cases h2 : (Flt.Q : Int) ≤ z
      · rw [decide_eq_true h2] at c2
        rw [show Flt.prtZ z = 1048576 from by unfold Flt.prtZ; rw [if_neg (by omega), if_pos h2]]
        exact prt_high_walk w (self_ne h) c1 c2
      · rw [decide_eq_false h2] at c2
        have e : Flt.prtZ z = Flt.flt x := by
          rw [Flt.flt_num h]
          unfold Flt.prtZ Flt.fltZ
          rw [if_neg (by omega), if_neg h2, if_neg (by omega), if_neg (by omega)]
        rw [e]
        exact prt_mid_walk w (self_ne h) c1 c2
  · have c0 : (FloatKind.f64.format.order x x != some .eq) = false := by
      have : FloatKind.f64.format.order x x = some .eq := Flt.order_inf_self h
      rw [this]; rfl
    have e1 : FloatKind.f64.format.order x 4580160821035794432 = some (if s then .lt else .gt) := Flt.order_inf_num h h64
    have e2 : FloatKind.f64.format.order x 4607182418800017408 = some (if s then .lt else .gt) := Flt.order_inf_num h Flt.num_one
    have e : Flt.prt x = if s then 16384 else 1048576 := by unfold Flt.prt; rw [h]
    rw [e]
    cases s with
    | true => exact prt_low_walk w c0 (by rw [e1]; rfl)
    | false => exact prt_high_walk w c0 (by rw [e1]; rfl) (by rw [e2]; rfl)
  · have c0 : (FloatKind.f64.format.order x x != some .eq) = true := by
      have : FloatKind.f64.format.order x x = none := Flt.order_nan_left h
      rw [this]; rfl
    have e : Flt.prt x = 262144 := by unfold Flt.prt; rw [h]
    rw [e]
    exact prt_nan_walk w c0

end Go.Proofs.Ytlbefohabphjlaa
