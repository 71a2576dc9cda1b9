/-
  THE WALK of treadmilllaw2.ConfWholes: whole percents come back as they are; parts of 2^20 come back as they are.
-/
import Derived.Test.YtlbefohabphjlaaConfBoundsW
namespace Go.Proofs.Ytlbefohabphjlaa
open Go.RowKit

namespace Flt
open Ieee

/-- A sum that the format has. -/
theorem add_exact {x y : Nat} {z t : Int} (hx : Num x z) (hy : Num y t) (m e : Nat) (hm : 0 < m) (hm2 : m < 9007199254740992) (he : e ≤ 2000) (h : z + t = ((m * 2 ^ e : Nat) : Int)) :
    ∃ r, double.add x y = some r ∧ Num r (z + t) := by
  obtain ⟨s, a, i, e1, i0, i1, a1, hz⟩ := hx
  obtain ⟨u, b, j, e2, j0, j1, b1, ht⟩ := hy
  obtain ⟨base, hbase⟩ : ∃ base, base = min i j := ⟨_, rfl⟩
  obtain ⟨B, hB⟩ : ∃ B : Nat, B = (base + 1074).toNat := ⟨_, rfl⟩
  obtain ⟨total, htot⟩ : ∃ total, total = signed s a (i - base).toNat + signed u b (j - base).toNat := ⟨_, rfl⟩
  have hsum : total * (2 ^ B : Nat) = z + t := by
    rw [htot, Int.add_mul, ← signed_pow, ← signed_pow, hB, show (i - base).toNat + (base + 1074).toNat = (i + 1074).toNat by omega, show (j - base).toNat + (base + 1074).toNat = (j + 1074).toNat by omega, hz, ht]
  have hpB : 0 < 2 ^ B := Nat.two_pow_pos B
  have hpe : 0 < 2 ^ e := Nat.two_pow_pos e
  have hme : 0 < m * 2 ^ e := Nat.mul_pos hm hpe
  have htpos : 0 < total := by
    rcases Int.lt_or_le 0 total with h1 | h1
    · exact h1
    · exfalso
      have : total * (2 ^ B : Nat) ≤ 0 * (2 ^ B : Nat) := Int.mul_le_mul_of_nonneg_right h1 (by omega)
      omega
  obtain ⟨T, rfl⟩ := Int.eq_ofNat_of_zero_le (show 0 ≤ total by omega)
  have hT : T * 2 ^ B = m * 2 ^ e := by
    rw [h] at hsum
    exact_mod_cast hsum
  have hadd : double.add x y = some (double.nearest false T base) := by
    unfold Format.add
    rw [e1, e2]
    simp only [Datum.sum, ← hbase, ← htot]
    have n0 : ¬ ((T : Int) = 0) := by omega
    have n1 : ¬ ((T : Int) < 0) := by omega
    simp only [n0, n1, if_false, decide_false, Int.natAbs_natCast]
    rfl
  refine ⟨_, hadd, ?_⟩
  have hval : z + t = signed false T B := by
    rw [← hsum, signed_eq]; simp
  by_cases hc : B ≤ e
  · have hTm : T = m * 2 ^ (e - B) := by
      have : T * 2 ^ B = m * 2 ^ (e - B) * 2 ^ B := by rw [hT, Nat.mul_assoc, ← Nat.pow_add, show e - B + B = e by omega]
      exact Nat.eq_of_mul_eq_mul_right hpB this
    have hl := log2_le hm hm2
    have hn := nearest_exact false m (e - B) ((e : Int) - 1074) hm hm2 (by omega) (by omega)
    rw [← hTm, show (e : Int) - 1074 - (e - B : Nat) = base by omega, show ((e : Int) - 1074 + 1074).toNat = e by omega] at hn
    rw [hval, signed_eq, hT, ← signed_eq]
    exact hn
  · have hTm : m = T * 2 ^ (B - e) := by
      have : m * 2 ^ e = T * 2 ^ (B - e) * 2 ^ e := by rw [← hT, Nat.mul_assoc, ← Nat.pow_add, show B - e + e = B by omega]
      exact Nat.eq_of_mul_eq_mul_right hpe this
    have hTlt : T < 9007199254740992 := by
      have : T ≤ T * 2 ^ (B - e) := Nat.le_mul_of_pos_right _ (Nat.two_pow_pos _)
      omega
    have hl := log2_le (show 0 < T by omega) hTlt
    have hn := nearest_exact false T 0 base (by omega) hTlt (by omega) (by omega)
    rw [Nat.pow_zero, Nat.mul_one, show base - ((0 : Nat) : Int) = base by omega, ← hB] at hn
    rw [hval]
    exact hn

theorem num_three_quarters : ∃ t : Int, Num 4604930618986332160 t ∧ t * 4 = 3 * Q := by
  obtain ⟨t, h1, h2⟩ := const_num (x := 4604930618986332160) (s := false) (m := 6755399441055744) (i := -53) (by decide +kernel) (by omega) (by omega) (by omega)
  refine ⟨t, h1, ?_⟩
  rw [show ((2 ^ (-(-53 : Int)).toNat : Nat) : Int) = 9007199254740992 from by decide +kernel, show signed false (6755399441055744 <<< (-53 : Int).toNat) 0 = 6755399441055744 from by decide +kernel] at h2
  omega

/-- A whole number up to 10,000, and three quarters more. -/
theorem add_34 (k : Nat) (hk : k ≤ 10000) : ∃ r t, double.add (floatOfInt .f64 (k : Int)) 4604930618986332160 = some r ∧ Num r t ∧ t * 4 = (4 * k + 3) * Q := by
  obtain ⟨t, h1, h2⟩ := num_three_quarters
  have hx : Num (floatOfInt .f64 (k : Int)) ((k : Int) * Q) := ofInt_small (by omega)
  obtain ⟨W, hW⟩ : ∃ W, W = 2 ^ (low - 2) := ⟨_, rfl⟩
  have hQW : Q = W * 4 := by rw [hW]; unfold Q; rw [show (4 : Nat) = 2 ^ 2 from rfl, ← Nat.pow_add, show low - 2 + 2 = low by rw [low_eq]]
  have h3 : (k : Int) * Q + t = (((4 * k + 3) * 2 ^ (low - 2) : Nat) : Int) := by
    rw [← hW, Int.natCast_mul]
    rw [hQW] at h2 ⊢
    have e : (k : Int) * ((W * 4 : Nat) : Int) = ((4 * k : Nat) : Int) * W := by
      rw [Int.natCast_mul, Int.natCast_mul, ← Int.mul_assoc, Int.mul_right_comm, Int.mul_comm (k : Int)]
    rw [e, Int.natCast_add, Int.add_mul]
    omega
  obtain ⟨r, hr, hn⟩ := add_exact hx h1 (4 * k + 3) (low - 2) (by omega) (by omega) (by rw [low_eq]; omega) h3
  refine ⟨r, _, hr, hn, ?_⟩
  rw [Int.add_mul, h2, Int.mul_right_comm, Int.mul_comm (k : Int), ← Int.add_mul]

theorem pct_whole (k : Nat) (hk : k ≤ 10000) : pct (floatOfInt .f64 (k : Int)) = ((k : Int), true) := by
  have hx : Num (floatOfInt .f64 (k : Int)) ((k : Int) * Q) := ofInt_small (by omega)
  have hQ := Q_pos
  have h0 : (0 : Int) ≤ (k : Int) * Q := Int.mul_nonneg (by omega) (by omega)
  rw [pct_num hx, if_neg (by omega)]
  unfold pctZ
  by_cases h : k = 10000
  · subst h
    rw [if_neg (by omega)]; rfl
  · have h1 : (k : Int) * Q < 10000 * Q := Int.mul_lt_mul_of_pos_right (by omega) (by omega)
    rw [if_pos h1, Int.mul_ediv_cancel _ (by omega)]

theorem pct_more (k r : Nat) (t : Int) (hk : k ≤ 10000) (hr : Num r t) (ht : t * 4 = (4 * k + 3) * Q) : pct r = ((k : Int), true) := by
  have hQ := Q_pos
  have e : t * 4 = (4 * k) * Q + 3 * Q := by rw [ht, Int.add_mul]
  have h0 : (0 : Int) ≤ (k : Int) * Q := Int.mul_nonneg (by omega) (by omega)
  have e2 : (4 * (k : Int)) * Q = 4 * ((k : Int) * Q) := Int.mul_assoc _ _ _
  rw [e2] at e
  rw [pct_num hr, if_neg (by omega)]
  unfold pctZ
  by_cases h : k = 10000
  · subst h
    rw [if_neg (by omega)]; rfl
  · have h1 : (k : Int) * Q ≤ 9999 * Q := Int.mul_le_mul_of_nonneg_right (by omega) (by omega)
    rw [if_pos (by omega)]
    have h2 : t / (Q : Int) = k := by
      refine Int.le_antisymm ?_ ?_
      · have : t / (Q : Int) < k + 1 := Int.ediv_lt_of_lt_mul (by omega) (by rw [Int.add_mul]; omega)
        omega
      · rw [Int.le_ediv_iff_mul_le (by omega)]; omega
    rw [h2]

theorem prt_real (p : Int) (h0 : 16384 ≤ p) (h1 : p ≤ 1048576) : prt (real p) = p := by
  obtain ⟨t, -, hn, ht⟩ := real_num (n := p) (by omega)
  have hQ := Q_pos
  have hlo : 16384 * (Q : Int) ≤ p * Q := Int.mul_le_mul_of_nonneg_right h0 (by omega)
  rw [prt_num hn]
  unfold prtZ
  rw [if_neg (by omega)]
  by_cases h : p = 1048576
  · subst h
    rw [if_pos (by omega)]
  · have hhi : p * (Q : Int) ≤ 1048575 * Q := Int.mul_le_mul_of_nonneg_right (by omega) (by omega)
    rw [if_neg (by omega), ht, Int.mul_ediv_cancel _ (by omega)]
end Flt

theorem real_call {n : Int} (h : n.natAbs < 9007199254740992) (w : World) : Calls Try.prog 27 #[.int .i64 n] w fun e w' => e = .returned (.float .f64 (Flt.real n)) ∧ w = w' := by
  obtain ⟨t, hd, -⟩ := Flt.real_num h
  exact real_any w hd

set_option maxRecDepth 100000 in
set_option maxHeartbeats 1000000 in
theorem confWholes_core (a c k p : Int) (y : Nat) (w : World) (hk : (IntKind.u64.wrap a).tmod 10001 = k) (hk0 : 0 ≤ k) (hk1 : k ≤ 10000)
    (hp : (IntKind.u64.wrap c).tmod 1032193 = p) (hp0 : 0 ≤ p) (hp1 : p ≤ 1032192)
    (hadd : floatBits .add .f64 (floatOfInt .f64 k) 4604930618986332160 = some y)
    (h1 : Flt.pct (floatOfInt .f64 k) = (k, true)) (h2 : Flt.pct y = (k, true)) (h3 : Flt.prt (Flt.real (16384 + p)) = 16384 + p) :
    Calls Try.prog 14 #[.int .i64 a, .int .i64 c] w fun e w' => e = .returned (.bool true) ∧ Grown w w' := by
  have hsum := fun w => run_float_arith (P := Try.prog) w .add 28 .f64 (floatOfInt .f64 k) 4604930618986332160 y hadd
  have hcon := fun w => run_convert_int_float (P := Try.prog) w 3 28 .i64 .f64 k (by rw [Try.underlying3]; rfl) Try.underlying28
  have H1 := Lib.hid h1
  have H2 := Lib.hid h2
  have H3 := Lib.hid h3
  clear h1 h2 h3 hadd
  have hmin : ∀ w, (Builtin.min_ #[3, 3] 3 #[.int .i64 k, .int .i64 10000]).run Try.prog w = .ok (.int .i64 k) w := fun w => by
    have h := run_min_int2 (P := Try.prog) w #[3, 3] 3 .i64 .i64 k 10000
    rw [if_neg (by omega)] at h
    exact h
  go_enter Try.func14, Try.ntmps14
  go_wp2_with fail
  refine (percent_at _ _ _ H1.out _).mono ?_; rintro e w' ⟨rfl, rfl⟩
  go_wp2_with fail
  refine (percent_at _ _ _ H2.out _).mono ?_; rintro e w' ⟨rfl, rfl⟩
  go_wp2_with fail
  refine (told2_any _).mono ?_; rintro e w1 ⟨rfl, g1⟩
  go_wp2_with fail
  refine (real_call (by omega) _).mono ?_; rintro e w' ⟨rfl, rfl⟩
  go_wp2_with fail
  refine (part_at _ _ H3.out _).mono ?_; rintro e w' ⟨rfl, rfl⟩
  go_wp2_with fail
  go_ret
  exact ⟨rfl, g1⟩

theorem confWholes_walk (a c : Int) (w : World) (_ha : -9223372036854775808 ≤ a) (_ha' : a ≤ 9223372036854775807) (_hc : -9223372036854775808 ≤ c) (_hc' : c ≤ 9223372036854775807) :
    Calls Try.prog 14 #[.int .i64 a, .int .i64 c] w fun e w' => e = .returned (.bool true) ∧ Grown w w' := by
  obtain ⟨k, hk, hk0, hk1⟩ := utmod a 10001 (by omega)
  obtain ⟨p, hp, hp0, hp1⟩ := utmod c 1032193 (by omega)
  obtain ⟨K, rfl⟩ := Int.eq_ofNat_of_zero_le hk0
  obtain ⟨y, t, e1, e2, e3⟩ := Flt.add_34 K (by omega)
  exact confWholes_core a c K p y w hk hk0 (by omega) hp hp0 (by omega) e1 (Flt.pct_whole K (by omega)) (Flt.pct_more K y t (by omega) e2 e3) (Flt.prt_real _ (by omega) (by omega))

end Go.Proofs.Ytlbefohabphjlaa
