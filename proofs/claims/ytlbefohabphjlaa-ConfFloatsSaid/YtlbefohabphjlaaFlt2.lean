/-
  PLAIN: what a product by 2^20, a quotient by 2^20, a whole number made a float, a float made whole come to, in units. No Go, no program.
-/
import Derived.Test.YtlbefohabphjlaaFlt
import Derived.Test.YtlbefohabphjlaaMath
import Derived.Laws.FloatArith
namespace Go.Proofs.Ytlbefohabphjlaa.Flt
open Ieee

theorem read_one : double.read 4697254411347427328 = .number false 4503599627370496 (-32) := by decide +kernel

theorem signed_zero (s : Bool) (k : Nat) : signed s 0 k = 0 := by rw [signed_eq, Nat.zero_mul]; cases s <;> rfl
theorem signed_natAbs (s : Bool) (m k : Nat) : (signed s m k).natAbs = m * 2 ^ k := by
  rw [signed_eq]
  cases s
  · simp only [Bool.false_eq_true, if_false]; omega
  · simp only [if_true]; omega
theorem nearest_zero (s : Bool) (p : Int) : Num (double.nearest s 0 p) 0 := by
  unfold Format.nearest
  rw [if_pos rfl]
  exact num_zero_word s

theorem small_place {m : Nat} {i : Int} (B : Nat) (hm : 0 < m) (hi : -1074 ≤ i) (h : m * 2 ^ (i + 1074).toNat < 2 ^ B * Q) : i + m.log2 < B := by
  have a1 : 2 ^ m.log2 ≤ m := Nat.log2_self_le (by omega)
  have a2 : 2 ^ m.log2 * 2 ^ (i + 1074).toNat ≤ m * 2 ^ (i + 1074).toNat := Nat.mul_le_mul_right _ a1
  unfold Q at h
  rw [← Nat.pow_add] at a2 h
  have a3 := (Nat.pow_lt_pow_iff_right (show 1 < 2 by omega)).1 (Nat.lt_of_le_of_lt a2 h)
  have hl := low_eq
  omega

/-- A float times 2^20. -/
theorem mul_one {x : Nat} {z : Int} (hx : Num x z) (hb : z.natAbs < 2 ^ 64 * Q) : ∃ r, double.mul x 4697254411347427328 = some r ∧ Num r (z * 1048576) := by
  obtain ⟨s, m, i, e, h1, h2, h3, rfl⟩ := hx
  rw [signed_natAbs] at hb
  unfold Format.mul
  rw [e, read_one]
  refine ⟨double.nearest (s ^^ false) (m * 4503599627370496) (i + -32), rfl, ?_⟩
  rw [Bool.xor_false]
  rcases Nat.eq_zero_or_pos m with hm | hm
  · subst hm
    rw [signed_zero, Nat.zero_mul]
    exact nearest_zero _ _
  · have hp := small_place 64 hm h1 hb
    have h := nearest_exact s m 52 (i + 20) hm h3 (by omega) (by omega)
    rw [show m * 2 ^ 52 = m * 4503599627370496 from rfl, show i + 20 - (52 : Nat) = i + -32 by omega, show (i + 20 + 1074).toNat = (i + 1074).toNat + 20 by omega, signed_pow] at h
    exact h

/-- A whole number's float. -/
theorem ofInt_num {n : Int} {m k : Nat} (hn : n.natAbs = m * 2 ^ k) (h3 : m < 9007199254740992) (hk : k ≤ 900) : Num (floatOfInt .f64 n) (n * Q) := by
  unfold floatOfInt FloatKind.nearest FloatKind.encode FloatKind.format Format.write
  show Num (double.nearest (decide (n < 0)) n.natAbs 0) (n * Q)
  rw [hn]
  rcases Nat.eq_zero_or_pos m with hm | hm
  · subst hm
    rw [Nat.zero_mul] at hn ⊢
    obtain rfl : n = 0 := by omega
    rw [Int.zero_mul]
    exact nearest_zero _ _
  · have hl := log2_le hm h3
    have h := nearest_exact (decide (n < 0)) m k k hm h3 (by omega) (by omega)
    rw [show (k : Int) - (k : Nat) = 0 by omega] at h
    have e : signed (decide (n < 0)) m ((k : Int) + 1074).toNat = n * Q := by
      rw [show ((k : Int) + 1074).toNat = k + low by rw [low_eq]; omega, signed_pow, signed_eq, ← hn]
      show _ * ((2 ^ low : Nat) : Int) = n * ((2 ^ low : Nat) : Int)
      congr 1
      by_cases hs : n < 0
      · simp only [hs, decide_true, if_true]; omega
      · simp only [hs, decide_false, Bool.false_eq_true, if_false]; omega
    rw [e] at h
    exact h

theorem ofInt_small {n : Int} (h : n.natAbs < 9007199254740992) : Num (floatOfInt .f64 n) (n * Q) :=
  ofInt_num (m := n.natAbs) (k := 0) (by rw [Nat.pow_zero, Nat.mul_one]) h (by omega)

/-- A whole number's float, by 2^20. -/
theorem div_one {x : Nat} {n : Int} (hx : Num x (n * Q)) : ∃ r t, double.div x 4697254411347427328 = some r ∧ Num r t ∧ t * 1048576 = n * Q := by
  obtain ⟨s, m, i, e, h1, h2, h3, h4⟩ := hx
  unfold Format.div
  rw [e, read_one]
  rcases Nat.eq_zero_or_pos m with hm | hm
  · subst hm
    rw [signed_zero] at h4
    refine ⟨double.nearest (s ^^ false) 0 (i - -32 - (52 + 2 + 52 - 0 : Nat) - 1), 0, ?_, nearest_zero _ _, by rw [← h4]; rfl⟩
    have hl : Nat.log2 0 = 0 := by decide
    have hl2 : Nat.log2 4503599627370496 = 52 := by decide
    simp only [Datum.quotient, frac_eq, hl, hl2]
    simp
    rfl
  · have hlm := log2_le hm h3
    have hl2 : Nat.log2 4503599627370496 = 52 := by decide
    have hi : -53 ≤ i := by
      have hz : m * 2 ^ (i + 1074).toNat = (n * Q).natAbs := by rw [← h4, signed_natAbs]
      have hn : n ≠ 0 := by
        intro h0
        rw [h0, Int.zero_mul] at hz
        have := Nat.mul_pos hm (Nat.two_pow_pos (i + 1074).toNat)
        omega
      have hge : Q ≤ m * 2 ^ (i + 1074).toNat := by
        rw [hz, Int.natAbs_mul, Int.natAbs_natCast]
        exact Nat.le_mul_of_pos_left _ (by omega)
      have a2 : m * 2 ^ (i + 1074).toNat < 2 ^ 53 * 2 ^ (i + 1074).toNat := Nat.mul_lt_mul_of_pos_right (by omega) (Nat.two_pow_pos _)
      rw [← Nat.pow_add] at a2
      unfold Q at hge
      have a3 := (Nat.pow_lt_pow_iff_right (show 1 < 2 by omega)).1 (Nat.lt_of_le_of_lt hge a2)
      have hl := low_eq
      omega
    obtain ⟨more, hmore⟩ : ∃ more, more = 52 + 2 + 52 - m.log2 := ⟨_, rfl⟩
    have hdd : m <<< more = (m * 2 ^ (more - 52)) * 4503599627370496 := by
      rw [Nat.shiftLeft_eq, show (4503599627370496 : Nat) = 2 ^ 52 from rfl, Nat.mul_assoc, ← Nat.pow_add, show more - 52 + 52 = more by omega]
    have hq : m <<< more / 4503599627370496 = m * 2 ^ (more - 52) := by rw [hdd, Nat.mul_div_cancel _ (by omega)]
    have hr : m <<< more % 4503599627370496 = 0 := by rw [hdd, Nat.mul_mod_left]
    have h := nearest_exact s m (more - 51) (i - 20) hm h3 (by omega) (by omega)
    refine ⟨double.nearest s (m * 2 ^ (more - 51)) (i - 20 - (more - 51 : Nat)), _, ?_, h, ?_⟩
    · have e2 : 2 * (m * 2 ^ (more - 52)) = m * 2 ^ (more - 51) := by
        rw [show more - 51 = more - 52 + 1 by omega, Nat.pow_succ, Nat.mul_comm 2 (m * _), Nat.mul_assoc]
      have hne : ¬ ((4503599627370496 : Nat) = 0) := by omega
      simp only [Datum.quotient, frac_eq, hl2, ← hmore, hq, hr, e2, hne, if_false, bne_self_eq_false, Bool.toNat_false, Nat.add_zero, Bool.xor_false]
      show some (double.nearest s (m * 2 ^ (more - 51)) _) = _
      congr 2
      omega
    · rw [← h4, show (i + 1074).toNat = (i - 20 + 1074).toNat + 20 by omega, signed_pow]
      rfl

/-- What floors and cuts give. -/
theorem scale_split {s : Bool} {m : Nat} {i : Int} (h1 : -1074 ≤ i) : signed s m (i + 1074).toNat * (2 ^ (-i).toNat : Nat) = signed s (m <<< i.toNat) 0 * Q := by
  have e : m * 2 ^ ((i + 1074).toNat + (-i).toNat) = m * 2 ^ i.toNat * Q := by
    unfold Q
    have hl := low_eq
    rw [Nat.mul_assoc, ← Nat.pow_add, show (i + 1074).toNat + (-i).toNat = i.toNat + low by omega]
  rw [← signed_pow, signed_eq, signed_eq, Nat.shiftLeft_eq, Nat.pow_zero, Nat.mul_one, Int.mul_assoc, ← Int.natCast_mul, e]

theorem signed0 (s : Bool) (m : Nat) : signed s m 0 = if s then -(m : Int) else m := by unfold signed; rfl

theorem floor_down (s : Bool) (n d : Nat) : signed s (Toward.down.cut s n d) 0 = signed s n 0 / ((2 ^ d : Nat) : Int) := by
  have hp : 0 < 2 ^ d := Nat.two_pow_pos d
  rw [cut_down, signed0, signed0]
  cases s
  · simp only [Bool.false_eq_true, if_false, Bool.false_and, Bool.toNat_false, Nat.add_zero, Int.natCast_ediv]
  · simp only [if_true, Bool.true_and]
    rw [Fx.neg_ediv _ _ (by omega), ← Int.natCast_ediv, ← Int.natCast_emod]
    congr 1
    by_cases h : n % 2 ^ d = 0
    · simp [h]
    · have hne : ¬ ((n % 2 ^ d : Nat) : Int) = 0 := by omega
      have hbe : (n % 2 ^ d != 0) = true := by simp [h]
      rw [hbe, if_pos (by simpa using hne)]
      rfl

theorem cut_zero_signed (s : Bool) (n d : Nat) : signed s (Toward.zero.cut s n d) 0 = (signed s n 0).tdiv ((2 ^ d : Nat) : Int) := by
  rw [cut_zero, signed0, signed0]
  cases s
  · simp only [Bool.false_eq_true, if_false]
    rw [Int.tdiv_eq_ediv_of_nonneg (by omega), Int.natCast_ediv]
  · simp only [if_true]
    rw [Int.neg_tdiv, Int.tdiv_eq_ediv_of_nonneg (by omega), Int.natCast_ediv]

theorem units_div {s : Bool} {m : Nat} {i : Int} (h1 : -1074 ≤ i) : signed s (m <<< i.toNat) 0 / ((2 ^ (-i).toNat : Nat) : Int) = signed s m (i + 1074).toNat / (Q : Int) := by
  have hp : 0 < 2 ^ (-i).toNat := Nat.two_pow_pos _
  have hQ := Q_pos
  have e := scale_split (s := s) (m := m) h1
  rw [← Int.mul_ediv_mul_of_pos_left (signed s (m <<< i.toNat) 0) _ (show (0 : Int) < Q by omega), ← e, Int.mul_comm ((2 ^ (-i).toNat : Nat) : Int) (Q : Int),
    Int.mul_ediv_mul_of_pos_left _ _ (by omega)]

theorem units_tdiv {s : Bool} {m : Nat} {i : Int} (h1 : -1074 ≤ i) : (signed s (m <<< i.toNat) 0).tdiv ((2 ^ (-i).toNat : Nat) : Int) = (signed s m (i + 1074).toNat).tdiv (Q : Int) := by
  have hp : 0 < 2 ^ (-i).toNat := Nat.two_pow_pos _
  have hQ := Q_pos
  have e := scale_split (s := s) (m := m) h1
  rw [← Int.mul_tdiv_mul_of_pos_left (signed s (m <<< i.toNat) 0) _ (show (0 : Int) < Q by omega), ← e, Int.mul_comm ((2 ^ (-i).toNat : Nat) : Int) (Q : Int),
    Int.mul_tdiv_mul_of_pos_left _ _ (by omega)]

/-- A float, cut down to a whole one. -/
def floorW (x : Nat) : Nat := double.write ((double.read x).integral .down)

theorem floor_num {x : Nat} {z : Int} (hx : Num x z) : Num (floorW x) (z / (Q : Int) * Q) := by
  obtain ⟨s, m, i, e, h1, h2, h3, rfl⟩ := hx
  unfold floorW
  rw [e]
  show Num (double.nearest s (Toward.down.cut s (m <<< i.toNat) (-i).toNat) 0) _
  rw [← units_div h1, ← floor_down]
  obtain ⟨C, hC⟩ : ∃ C, C = Toward.down.cut s (m <<< i.toNat) (-i).toNat := ⟨_, rfl⟩
  rw [← hC]
  have key : ∃ n k, C = n * 2 ^ k ∧ n < 9007199254740992 ∧ k ≤ 971 := by
    rw [cut_down] at hC
    by_cases hi : 0 ≤ i
    · rw [show (-i).toNat = 0 by omega, Nat.pow_zero, Nat.div_one, Nat.mod_one, Nat.shiftLeft_eq] at hC
      exact ⟨m, i.toNat, by rw [hC]; cases s <;> simp, h3, by omega⟩
    · refine ⟨C, 0, by rw [Nat.pow_zero, Nat.mul_one], ?_, by omega⟩
      rw [show i.toNat = 0 by omega, Nat.shiftLeft_zero] at hC
      have hb : (s && m % 2 ^ (-i).toNat != 0).toNat ≤ 1 := Bool.toNat_le _
      have hd : m / 2 ^ (-i).toNat ≤ m / 2 ^ 1 := Nat.div_le_div_left (Nat.pow_le_pow_right (by omega) (by omega)) (by omega)
      omega
  obtain ⟨n, k, hCn, hn, hk⟩ := key
  rcases Nat.eq_zero_or_pos n with hn0 | hn0
  · rw [hn0, Nat.zero_mul] at hCn
    rw [hCn, signed_zero, Int.zero_mul]
    exact nearest_zero _ _
  · have hl := log2_le hn0 hn
    have h := nearest_exact s n k k hn0 hn (by omega) (by omega)
    rw [show (k : Int) - (k : Nat) = 0 by omega, ← hCn] at h
    have e2 : signed s n ((k : Int) + 1074).toNat = signed s C 0 * Q := by
      rw [show ((k : Int) + 1074).toNat = k + low by rw [low_eq]; omega, signed_pow, hCn, signed_eq, signed_eq, Nat.pow_zero, Nat.mul_one]
      rfl
    rw [e2] at h
    exact h

/-- A float, cut towards zero, as a whole number. -/
theorem toInt_num {x : Nat} {z : Int} (hx : Num x z) : (double.read x).toInt .zero = some (z.tdiv (Q : Int)) := by
  obtain ⟨s, m, i, e, h1, h2, h3, rfl⟩ := hx
  rw [e, ← units_tdiv h1, ← cut_zero_signed]
  rfl

end Go.Proofs.Ytlbefohabphjlaa.Flt
