/-
  PLAIN: fixed-point numbers as whole numbers: sums, products and quotients cut to what an int64 can hold; the division of 128 by 64 bits, digit by digit. No Go, no program.
-/
namespace Go.Proofs.Ytlbefohabphjlaa.Fx

theorem ntdiv {P K : Nat} : P / K = P / K := rfl

/-- The nearest number that an int64 holds. -/
def sat (x : Int) : Int := if 9223372036854775807 < x then 9223372036854775807 else if x < -9223372036854775808 then -9223372036854775808 else x

theorem sat_range (x : Int) : -9223372036854775808 ≤ sat x ∧ sat x ≤ 9223372036854775807 := by unfold sat; omega
theorem sat_le {x y : Int} (h : x ≤ y) : sat x ≤ sat y := by unfold sat; omega
theorem sat_eq {x : Int} (h1 : -9223372036854775808 ≤ x) (h2 : x ≤ 9223372036854775807) : sat x = x := by unfold sat; omega
theorem sat_hi {x : Int} (h : 9223372036854775807 ≤ x) : sat x = 9223372036854775807 := by unfold sat; omega
theorem sat_lo {x : Int} (h : x ≤ -9223372036854775808) : sat x = -9223372036854775808 := by unfold sat; omega

def add (a b : Int) : Int := sat (a + b)
def sub (a b : Int) : Int := sat (a - b)
def mul (a b : Int) : Int := sat (a * b / 1048576)
def div (a b : Int) : Int := if b = 0 then (if 0 < a then 9223372036854775807 else if a < 0 then -9223372036854775808 else 0) else sat (Int.fdiv (a * 1048576) b)
def whole (n : Int) : Int := sat (n * 1048576)
def int (a : Int) : Int := a / 1048576

/-- A number of its size (two words), its sign, and whether something was cut off. -/
def made (hi lo : Int) (below more : Bool) : Int :=
  if below = true then
    (if 9223372036854775808 < hi * 18446744073709551616 + lo + (if more = true then 1 else 0) then -9223372036854775808
     else -(hi * 18446744073709551616 + lo + (if more = true then 1 else 0)))
  else (if 9223372036854775808 ≤ hi * 18446744073709551616 + lo then 9223372036854775807 else hi * 18446744073709551616 + lo)

theorem made_pos (hi lo q : Int) (m : Bool) (h : hi * 18446744073709551616 + lo = q) (_h0 : 0 ≤ q) : made hi lo false m = sat q := by
  subst h
  unfold made sat
  simp only [Bool.false_eq_true, if_false]
  omega
theorem made_neg (hi lo q : Int) (m : Bool) (h : hi * 18446744073709551616 + lo = q) (_h0 : 0 ≤ q) : made hi lo true m = sat (-(q + if m = true then 1 else 0)) := by
  subst h
  unfold made sat
  cases m <;> simp only [Bool.false_eq_true, if_false, if_true] <;> omega

/-- Floor of minus a quotient. -/
theorem neg_ediv (p k : Int) (hk : 0 < k) : (-p) / k = -(p / k + if decide (p % k ≠ 0) = true then 1 else 0) := by
  by_cases h : p % k = 0
  · have h' : ¬ (decide (p % k ≠ 0) = true) := by simp [h]
    rw [if_neg h']
    have e : p = k * (p / k) := by have := Int.mul_ediv_add_emod p k; omega
    rw [Int.add_zero]
    have : -p = k * (-(p / k)) := by rw [Int.mul_neg, ← e]
    rw [this, Int.mul_ediv_cancel_left _ (by omega)]
  · have h' : (decide (p % k ≠ 0) = true) := by simp [h]
    rw [if_pos h']
    have e := Int.mul_ediv_add_emod p k
    have e1 := Int.emod_nonneg p (show k ≠ 0 by omega)
    have e2 := Int.emod_lt_of_pos p hk
    have h0 : 0 < p % k := by omega
    have : -p = (k - p % k) + k * (-(p / k + 1)) := by
      rw [Int.mul_neg, Int.mul_add, Int.mul_one]; omega
    rw [this, Int.add_mul_ediv_left _ _ (by omega), Int.ediv_eq_zero_of_lt (by omega) (by omega)]
    omega

/-- What a product's sign and size come to. -/
theorem mul_made (a b : Int) (hi lo : Int) (m : Bool) (h : hi * 18446744073709551616 + lo = (a.natAbs * b.natAbs : Nat) / 1048576) (hm : m = decide (((a.natAbs * b.natAbs : Nat) : Int) % 1048576 ≠ 0)) :
    made hi lo (decide (a < 0) != decide (b < 0)) m = mul a b := by
  have h0 : (0 : Int) ≤ ((a.natAbs * b.natAbs : Nat) : Int) / 1048576 := Int.ediv_nonneg (by omega) (by omega)
  have hab : ((a.natAbs * b.natAbs : Nat) : Int) = a.natAbs * b.natAbs := by rw [Int.natCast_mul]
  have pos : a * b = ((a.natAbs * b.natAbs : Nat) : Int) → made hi lo false m = mul a b := fun e => by
    rw [made_pos hi lo _ m h h0, mul, e]
  have neg : a * b = -((a.natAbs * b.natAbs : Nat) : Int) → made hi lo true m = mul a b := fun e => by
    rw [made_neg hi lo _ m h h0, mul, e, neg_ediv _ _ (by omega), hm]
  by_cases ha : a < 0 <;> by_cases hb : b < 0 <;> simp only [ha, hb, decide_true, decide_false, bne_self_eq_false, Bool.true_bne, Bool.false_bne, Bool.not_false]
  · exact pos (by rw [hab, show (a.natAbs : Int) = -a by omega, show (b.natAbs : Int) = -b by omega, Int.neg_mul_neg])
  · exact neg (by rw [hab, show (a.natAbs : Int) = -a by omega, show (b.natAbs : Int) = b by omega, Int.neg_mul, Int.neg_neg])
  · exact neg (by rw [hab, show (a.natAbs : Int) = a by omega, show (b.natAbs : Int) = -b by omega, Int.mul_neg, Int.neg_neg])
  · exact pos (by rw [hab, show (a.natAbs : Int) = a by omega, show (b.natAbs : Int) = b by omega])

/-- What a quotient's sign and size come to. -/
theorem div_made (a b : Int) (hb0 : b ≠ 0) (hi lo : Int) (m : Bool) (h : hi * 18446744073709551616 + lo = ((a.natAbs * 1048576 : Nat) : Int) / (b.natAbs : Int)) (hm : m = decide (((a.natAbs * 1048576 : Nat) : Int) % (b.natAbs : Int) ≠ 0)) :
    made hi lo (decide (a < 0) != decide (b < 0)) m = div a b := by
  have h0 : (0 : Int) ≤ ((a.natAbs * 1048576 : Nat) : Int) / (b.natAbs : Int) := Int.ediv_nonneg (by omega) (by omega)
  have hab : ((a.natAbs * 1048576 : Nat) : Int) = a.natAbs * 1048576 := by rw [Int.natCast_mul]; rfl
  have key : ∀ x : Int, Int.fdiv (a * 1048576) b = x → sat x = div a b := fun x e => by rw [div, if_neg hb0, e]
  have pos : Int.fdiv (a * 1048576) b = ((a.natAbs * 1048576 : Nat) : Int) / (b.natAbs : Int) → made hi lo false m = div a b := fun e => by
    rw [made_pos hi lo _ m h h0]; exact key _ e
  have neg : Int.fdiv (a * 1048576) b = (-((a.natAbs * 1048576 : Nat) : Int)) / (b.natAbs : Int) → made hi lo true m = div a b := fun e => by
    rw [made_neg hi lo _ m h h0, hm, ← neg_ediv _ _ (by omega)]; exact key _ e
  by_cases ha : a < 0 <;> by_cases hb : b < 0 <;> simp only [ha, hb, decide_true, decide_false, bne_self_eq_false, Bool.true_bne, Bool.false_bne, Bool.not_false]
  · refine pos ?_
    rw [hab, show (a.natAbs : Int) = -a by omega, show (b.natAbs : Int) = -b by omega, ← Int.fdiv_eq_ediv_of_nonneg _ (by omega), Int.neg_mul, Int.neg_fdiv_neg]
  · refine neg ?_
    rw [hab, show (a.natAbs : Int) = -a by omega, show (b.natAbs : Int) = b by omega, ← Int.fdiv_eq_ediv_of_nonneg _ (by omega), Int.neg_mul, Int.neg_neg]
  · refine neg ?_
    rw [hab, show (a.natAbs : Int) = a by omega, show (b.natAbs : Int) = -b by omega, ← Int.fdiv_eq_ediv_of_nonneg _ (by omega), Int.neg_fdiv_neg]
  · refine pos ?_
    rw [hab, show (a.natAbs : Int) = a by omega, show (b.natAbs : Int) = b by omega, ← Int.fdiv_eq_ediv_of_nonneg _ (by omega)]

end Go.Proofs.Ytlbefohabphjlaa.Fx
