/-
  PLAIN: float64 words as whole numbers of units of 2^-1074: what reading, writing, comparing, multiplying, dividing, flooring give where the exact result is a float. No Go, no program.
-/
import Derived.Laws.FloatBits
namespace Go.Proofs.Ytlbefohabphjlaa.Flt
open Ieee

/-- How many places below 1 the last place lies. -/
def low : Nat := 1074
theorem low_eq : low = 1074 := rfl
/-- Units in 1. -/
def Q : Nat := 2 ^ low
theorem Q_pos : 0 < Q := Nat.two_pow_pos _

theorem leastPlace_eq : double.leastPlace = -1074 := by decide
theorem binade_eq : double.binade = 4503599627370496 := by decide
theorem infRung_eq : double.infRung = 9218868437227405312 := by decide
theorem signWeight_eq : double.signWeight = 9223372036854775808 := by decide
theorem frac_eq : double.fractionBits = 52 := rfl

/-- The word reads as a number of so many units. -/
def Num (x : Nat) (z : Int) : Prop := ∃ s m i, double.read x = .number s m i ∧ -1074 ≤ i ∧ i ≤ 971 ∧ m < 9007199254740992 ∧ signed s m (i + 1074).toNat = z

theorem read_cases (x : Nat) : (∃ z, Num x z) ∨ (∃ s, double.read x = .infinity s) ∨ (∃ s f, double.read x = .nan s f) := by
  unfold Num Format.read
  rw [leastPlace_eq, binade_eq, infRung_eq, signWeight_eq]
  dsimp only
  generalize (x / 9223372036854775808 % 2 == 1) = s
  generalize x % 9223372036854775808 = r
  by_cases h1 : r < 4503599627370496
  · rw [if_pos h1]
    exact Or.inl ⟨_, _, _, _, rfl, by omega, by omega, by omega, rfl⟩
  · rw [if_neg h1]
    by_cases h2 : r < 9218868437227405312
    · rw [if_pos h2]
      exact Or.inl ⟨_, _, _, _, rfl, by omega, by omega, by omega, rfl⟩
    · rw [if_neg h2]
      by_cases h3 : r = 9218868437227405312
      · rw [if_pos h3]; exact Or.inr (Or.inl ⟨_, rfl⟩)
      · rw [if_neg h3]; exact Or.inr (Or.inr ⟨_, _, rfl⟩)

theorem signed_eq (s : Bool) (m k : Nat) : signed s m k = (if s then -1 else 1) * ((m * 2 ^ k : Nat) : Int) := by
  unfold signed
  rw [Nat.shiftLeft_eq]
  cases s <;> simp

theorem signed_pow (s : Bool) (m k l : Nat) : signed s m (k + l) = signed s m k * (2 ^ l : Nat) := by
  rw [signed_eq, signed_eq, Nat.pow_add, ← Nat.mul_assoc, Int.natCast_mul, Int.mul_assoc]

/-! ### comparing -/
theorem cmp_lt {a b : Int} (h : a < b) : compare a b = .lt := by simp [compare, compareOfLessAndEq, h]
theorem cmp_eq (a : Int) : compare a a = .eq := by simp [compare, compareOfLessAndEq]
theorem cmp_gt {a b : Int} (h : b < a) : compare a b = .gt := by
  have h1 : ¬ a < b := by omega
  have h2 : ¬ a = b := by omega
  simp [compare, compareOfLessAndEq, h1, h2]
theorem cmp_mul (a b c : Int) (hc : 0 < c) : compare (a * c) (b * c) = compare a b := by
  rcases Int.lt_trichotomy a b with h | h | h
  · rw [cmp_lt h, cmp_lt (Int.mul_lt_mul_of_pos_right h hc)]
  · subst h; rw [cmp_eq, cmp_eq]
  · rw [cmp_gt h, cmp_gt (Int.mul_lt_mul_of_pos_right h hc)]

theorem order_num {x y : Nat} {z t : Int} (hx : Num x z) (hy : Num y t) : double.order x y = some (compare z t) := by
  obtain ⟨s, m, i, e, h1, -, -, rfl⟩ := hx
  obtain ⟨u, n, j, e', h2, -, -, rfl⟩ := hy
  unfold Format.order
  rw [e, e']
  show some (compare (signed s m (i - min i j).toNat) (signed u n (j - min i j).toNat)) = _
  have hb : -1074 ≤ min i j := by omega
  rw [show (i + 1074).toNat = (i - min i j).toNat + (min i j + 1074).toNat by omega, show (j + 1074).toNat = (j - min i j).toNat + (min i j + 1074).toNat by omega,
    signed_pow, signed_pow, cmp_mul _ _ _ (by have := Nat.two_pow_pos (min i j + 1074).toNat; omega)]

theorem order_nan_left {x y : Nat} {s : Bool} {f : Nat} (h : double.read x = .nan s f) : double.order x y = none := by
  unfold Format.order; rw [h]; rfl
theorem order_inf_num {x y : Nat} {s : Bool} {t : Int} (h : double.read x = .infinity s) (hy : Num y t) : double.order x y = some (if s then .lt else .gt) := by
  obtain ⟨u, n, j, e', -⟩ := hy
  unfold Format.order; rw [h, e']; rfl
theorem order_inf_self {x : Nat} {s : Bool} (h : double.read x = .infinity s) : double.order x x = some .eq := by
  unfold Format.order; rw [h]; cases s <;> rfl

/-! ### cutting -/
theorem log2_gap (n : Nat) : n < 2 ^ (n.log2 + 2) := by
  have h : n < 2 ^ (n.log2 + 1) := Nat.lt_log2_self
  have h2 : 2 ^ (n.log2 + 1) ≤ 2 ^ (n.log2 + 2) := Nat.pow_le_pow_right (by omega) (by omega)
  omega
theorem gap_div (n drop : Nat) : n / 2 ^ min drop (n.log2 + 2) = n / 2 ^ drop ∧ n % 2 ^ min drop (n.log2 + 2) = n % 2 ^ drop := by
  by_cases h : drop ≤ n.log2 + 2
  · rw [Nat.min_eq_left h]; exact ⟨rfl, rfl⟩
  · rw [Nat.min_eq_right (by omega)]
    have h1 := log2_gap n
    have h2 : 2 ^ (n.log2 + 2) ≤ 2 ^ drop := Nat.pow_le_pow_right (by omega) (by omega)
    rw [Nat.div_eq_of_lt h1, Nat.div_eq_of_lt (by omega), Nat.mod_eq_of_lt h1, Nat.mod_eq_of_lt (by omega)]
    exact ⟨rfl, rfl⟩
theorem cut_down (s : Bool) (n drop : Nat) : Toward.down.cut s n drop = n / 2 ^ drop + (s && n % 2 ^ drop != 0).toNat := by
  unfold Toward.cut
  simp only [Nat.shiftLeft_eq, Nat.one_mul, (gap_div n drop).1, (gap_div n drop).2]
theorem cut_zero (s : Bool) (n drop : Nat) : Toward.zero.cut s n drop = n / 2 ^ drop := by
  unfold Toward.cut
  simp only [Nat.shiftLeft_eq, Nat.one_mul, (gap_div n drop).1, Bool.toNat_false, Nat.add_zero]
theorem cut_even (s : Bool) (q drop : Nat) (hq : 0 < q) : Toward.even.cut s (q * 2 ^ drop) drop = q := by
  have hp : 0 < 2 ^ drop := Nat.two_pow_pos drop
  have hle : drop ≤ (q * 2 ^ drop).log2 := (Nat.le_log2 (by have := Nat.mul_pos hq hp; omega)).2 (Nat.le_mul_of_pos_left _ hq)
  unfold Toward.cut
  rw [Nat.min_eq_left (by omega)]
  have h0 : ¬ 2 ^ drop < 0 := by omega
  have h1 : ((2 ^ drop : Nat) == 0) = false := by simp
  simp only [Nat.shiftLeft_eq, Nat.one_mul, Nat.mul_mod_left, Nat.mul_zero, Nat.mul_div_cancel _ hp, h0, h1, decide_false, Bool.false_and, Bool.or_self, Bool.toNat_false, Nat.add_zero]

/-! ### writing -/
theorem read_word (s : Bool) (rung : Nat) (h : rung < 9223372036854775808) : double.read (double.word s rung) =
    (if rung < 4503599627370496 then .number s rung (-1074) else if rung < 9218868437227405312 then .number s (4503599627370496 + rung % 4503599627370496) (-1074 + (rung / 4503599627370496 - 1 : Nat)) else if rung = 9218868437227405312 then .infinity s else .nan s (rung - 9218868437227405312)) := by
  unfold Format.read Format.word
  rw [leastPlace_eq, binade_eq, infRung_eq, signWeight_eq]
  cases s
  · simp only [Bool.false_eq_true, if_false]
    rw [Nat.div_eq_of_lt h, Nat.mod_eq_of_lt h]; rfl
  · simp only [if_true]
    rw [show (9223372036854775808 + rung) / 9223372036854775808 = 1 by omega, show (9223372036854775808 + rung) % 9223372036854775808 = rung by omega]; rfl

theorem num_zero_word (s : Bool) : Num (double.word s 0) 0 := by
  refine ⟨s, 0, -1074, ?_, by omega, by omega, by omega, by cases s <;> rfl⟩
  rw [read_word s 0 (by omega)]; rfl

theorem log2_mul_pow (m k : Nat) (hm : 0 < m) : (m * 2 ^ k).log2 = m.log2 + k := by
  have h2k : 0 < 2 ^ k := Nat.two_pow_pos k
  have hmk : 0 < m * 2 ^ k := Nat.mul_pos hm h2k
  rw [Nat.log2_eq_iff (by omega)]
  have a1 : 2 ^ m.log2 ≤ m := Nat.log2_self_le (by omega)
  have a2 : m < 2 ^ (m.log2 + 1) := Nat.lt_log2_self
  constructor
  · rw [Nat.pow_add]; exact Nat.mul_le_mul_right _ a1
  · rw [show m.log2 + k + 1 = m.log2 + 1 + k by omega, Nat.pow_add]; exact Nat.mul_lt_mul_of_pos_right a2 h2k

theorem log2_le {m : Nat} (hm : 0 < m) (h : m < 9007199254740992) : m.log2 ≤ 52 := by
  have := (Nat.log2_lt (n := m) (k := 53) (by omega)).2 (by omega)
  omega

/-- The digits that are kept, where nothing is lost. -/
theorem kept_exact (s : Bool) (m k : Nat) (p last : Int) (hm : 0 < m) (hlp : last ≤ p) :
    Toward.even.cut s ((m * 2 ^ k) <<< (p - k - last).toNat) (last - (p - k)).toNat = m * 2 ^ (p - last).toNat := by
  by_cases hc : last ≤ p - k
  · rw [show (last - (p - k)).toNat = 0 by omega, Nat.shiftLeft_eq, Nat.mul_assoc, ← Nat.pow_add, show k + (p - k - last).toNat = (p - last).toNat by omega]
    have := cut_even s (m * 2 ^ (p - last).toNat) 0 (Nat.mul_pos hm (Nat.two_pow_pos _))
    rw [Nat.pow_zero, Nat.mul_one] at this
    exact this
  · rw [show (p - k - last).toNat = 0 by omega, Nat.shiftLeft_zero]
    have e : m * 2 ^ k = (m * 2 ^ (p - last).toNat) * 2 ^ (last - (p - k)).toNat := by
      rw [Nat.mul_assoc, ← Nat.pow_add, show (p - last).toNat + (last - (p - k)).toNat = k by omega]
    rw [e]
    exact cut_even s _ _ (Nat.mul_pos hm (Nat.two_pow_pos _))

theorem kept_lt (m d : Nat) (h : m.log2 + d ≤ 52) : m * 2 ^ d < 9007199254740992 := by
  have a2 : m < 2 ^ (m.log2 + 1) := Nat.lt_log2_self
  have a3 : m * 2 ^ d < 2 ^ (m.log2 + 1) * 2 ^ d := Nat.mul_lt_mul_of_pos_right a2 (Nat.two_pow_pos _)
  rw [← Nat.pow_add] at a3
  have a4 : 2 ^ (m.log2 + 1 + d) ≤ 2 ^ 53 := Nat.pow_le_pow_right (by omega) (by omega)
  exact Nat.lt_of_lt_of_le a3 a4
theorem kept_ge (m d : Nat) (hm : 0 < m) (h : m.log2 + d = 52) : 4503599627370496 ≤ m * 2 ^ d := by
  have a1 : 2 ^ m.log2 ≤ m := Nat.log2_self_le (by omega)
  have a3 : 2 ^ m.log2 * 2 ^ d ≤ m * 2 ^ d := Nat.mul_le_mul_right _ a1
  rw [← Nat.pow_add, h] at a3
  exact a3

/-- A rung's word. -/
theorem rung_num (s : Bool) (K L : Nat) (hL : L ≤ 2045) (hK1 : K < 9007199254740992) (hK2 : L = 0 ∨ 4503599627370496 ≤ K) :
    Num (double.word s (L * 4503599627370496 + K)) (signed s K L) := by
  have hlt : L * 4503599627370496 + K < 9223372036854775808 := by omega
  have hw := read_word s _ hlt
  by_cases hsub : K < 4503599627370496
  · obtain rfl : L = 0 := by omega
    refine ⟨s, K, -1074, ?_, by omega, by omega, hK1, rfl⟩
    rw [hw, if_pos (by omega), Nat.zero_mul, Nat.zero_add]
  · refine ⟨s, K, (L : Int) - 1074, ?_, by omega, by omega, hK1, by rw [show ((L : Int) - 1074 + 1074).toNat = L by omega]⟩
    rw [hw, if_neg (by omega), if_pos (by omega), show 4503599627370496 + (L * 4503599627370496 + K) % 4503599627370496 = K by omega,
      show (-1074 : Int) + (((L * 4503599627370496 + K) / 4503599627370496 - 1 : Nat) : Int) = (L : Int) - 1074 by omega]

theorem nearest_eq (s : Bool) (M : Nat) (P : Int) (hM : M ≠ 0) : double.nearest s M P =
    double.word s (min ((max (P + M.log2 - 52) (-1074) + 1074).toNat * 4503599627370496 + Toward.even.cut s (M <<< (P - max (P + M.log2 - 52) (-1074)).toNat) (max (P + M.log2 - 52) (-1074) - P).toNat) 9218868437227405312) := by
  unfold Format.nearest
  rw [if_neg hM, leastPlace_eq, frac_eq, binade_eq, infRung_eq]
  rfl

/-- A number that the format has is written as it is. -/
theorem nearest_exact (s : Bool) (m k : Nat) (p : Int) (hm : 0 < m) (hm2 : m < 9007199254740992) (hp : -1074 ≤ p) (hp2 : p + m.log2 ≤ 1023) :
    Num (double.nearest s (m * 2 ^ k) (p - k)) (signed s m (p + 1074).toNat) := by
  have h2k : 0 < 2 ^ k := Nat.two_pow_pos k
  have hmk : m * 2 ^ k ≠ 0 := by have := Nat.mul_pos hm h2k; omega
  have hlm := log2_le hm hm2
  rw [nearest_eq s _ _ hmk, log2_mul_pow m k hm]
  obtain ⟨last, hlast⟩ : ∃ last : Int, last = max (p - k + (m.log2 + k : Nat) - 52) (-1074) := ⟨_, rfl⟩
  rw [← hlast]
  have hlp : last ≤ p := by omega
  have hl0 : -1074 ≤ last := by omega
  have hl1 : last ≤ 971 := by omega
  have hd1 : m.log2 + (p - last).toNat ≤ 52 := by omega
  have hd2 : last = -1074 ∨ m.log2 + (p - last).toNat = 52 := by omega
  clear hlast
  rw [kept_exact s m k p last hm hlp]
  have hK1 := kept_lt m _ hd1
  have hK2 : last = -1074 ∨ 4503599627370496 ≤ m * 2 ^ (p - last).toNat := hd2.imp id (kept_ge m _ hm)
  have hval : signed s m (p + 1074).toNat = signed s (m * 2 ^ (p - last).toNat) (last + 1074).toNat := by
    rw [signed_eq, signed_eq, Nat.mul_assoc, ← Nat.pow_add, show (p - last).toNat + (last + 1074).toNat = (p + 1074).toNat by omega]
  rw [hval]
  clear hval hd1 hd2 hp2
  generalize m * 2 ^ (p - last).toNat = K at *
  rw [Nat.min_eq_left (by omega)]
  exact rung_num s K _ (by omega) hK1 (by omega)

end Go.Proofs.Ytlbefohabphjlaa.Flt
