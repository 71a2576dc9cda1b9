/-
  PLAIN: one digit of the long division of 128 by 64 bits (a guess from the upper half of the divisor, made smaller at most twice), and the two digits together. No Go, no program.
-/
namespace Go.Proofs.Ytlbefohabphjlaa.Knuth

/-- What holds of a guess q and what it leaves, r: U is to be divided, with u1 behind it, by Y, whose halves are a and b. -/
structure Inv (U u1 a Y q r : Nat) : Prop where
  sum : q * a + r = U
  low : r < 4294967296
  above : (U * 4294967296 + u1) / Y ≤ q
  least : q ≤ 4294967297

theorem le_of_scaled {x y c : Nat} (h : x * 4294967296 ≤ y * 4294967296 + c) (hc : c < 4294967296) : x ≤ y := by omega

theorem start {U u1 a b Y : Nat} (hY : Y = a * 4294967296 + b) (ha : 2147483648 ≤ a) (ha2 : a < 4294967296) (hb : b < 4294967296) (hu : u1 < 4294967296) (hU : U < Y) : Inv U u1 a Y (U / a) (U % a) := by
  have hdm := Nat.div_add_mod U a
  refine ⟨by rw [Nat.mul_comm]; exact hdm, by have := Nat.mod_lt U (show a > 0 by omega); omega, ?_, ?_⟩
  · rw [Nat.le_div_iff_mul_le (by omega)]
    have h := Nat.div_mul_le_self (U * 4294967296 + u1) Y
    generalize (U * 4294967296 + u1) / Y = Q at h ⊢
    have e : Q * Y = Q * a * 4294967296 + Q * b := by rw [hY, Nat.mul_add, Nat.mul_assoc]
    clear hY
    generalize Q * Y = z at *
    generalize Q * b = y at *
    generalize Q * a = x at *
    exact le_of_scaled (c := u1) (by omega) hu
  · have : U / a < 4294967298 := by
      rw [Nat.div_lt_iff_lt_mul (by omega)]
      omega
    omega

theorem scaled {q a r b U Y : Nat} (hY : Y = a * 4294967296 + b) (h : q * a + r = U) : q * Y + r * 4294967296 = U * 4294967296 + q * b := by
  subst h
  rw [hY, Nat.mul_add, ← Nat.mul_assoc, Nat.add_mul]
  generalize q * a = x
  generalize q * b = y
  omega

theorem lt_of_scaled {U u1 r z y : Nat} (e : z + r * 4294967296 = U * 4294967296 + y) (h1 : r * 4294967296 + u1 < y) : U * 4294967296 + u1 < z :=
  Nat.lt_of_not_le fun h2 => by omega

/-- The guess is too great. -/
theorem Inv.great {U u1 a b Y q r : Nat} (h : Inv U u1 a Y q r) (hY : Y = a * 4294967296 + b) (hu : u1 < 4294967296) (hU : U < Y)
    (ht : 4294967296 ≤ q ∨ r * 4294967296 + u1 < q * b) : (U * 4294967296 + u1) / Y < q := by
  rw [Nat.div_lt_iff_lt_mul (by omega)]
  rcases ht with h1 | h1
  · exact Nat.lt_of_lt_of_le (show U * 4294967296 + u1 < 4294967296 * Y by omega) (Nat.mul_le_mul_right Y h1)
  · exact lt_of_scaled (scaled hY h.sum) h1

theorem Inv.pos {U u1 a b Y q r : Nat} (h : Inv U u1 a Y q r) (hY : Y = a * 4294967296 + b) (hu : u1 < 4294967296) (hU : U < Y)
    (ht : 4294967296 ≤ q ∨ r * 4294967296 + u1 < q * b) : 1 ≤ q :=
  Nat.lt_of_le_of_lt (Nat.zero_le _) (h.great hY hu hU ht)

theorem Inv.sum' {U u1 a Y q r : Nat} (h : Inv U u1 a Y q r) (hq : 1 ≤ q) : (q - 1) * a + (r + a) = U := by
  have e := h.sum
  obtain ⟨p, rfl⟩ : ∃ p, q = p + 1 := ⟨q - 1, by omega⟩
  rw [Nat.add_sub_cancel]
  rw [Nat.add_mul] at e
  omega

/-- One less, and on. -/
theorem Inv.next {U u1 a b Y q r : Nat} (h : Inv U u1 a Y q r) (hY : Y = a * 4294967296 + b) (hu : u1 < 4294967296) (hU : U < Y)
    (ht : 4294967296 ≤ q ∨ r * 4294967296 + u1 < q * b) (hr : r + a < 4294967296) : Inv U u1 a Y (q - 1) (r + a) := by
  have h1 := h.great hY hu hU ht
  have h2 := h.least
  exact ⟨h.sum' (Nat.lt_of_le_of_lt (Nat.zero_le _) h1), hr, Nat.le_sub_one_of_lt h1, Nat.le_trans (Nat.sub_le _ _) h2⟩

/-- One less, and done. -/
theorem Inv.stop {U u1 a b Y q r : Nat} (h : Inv U u1 a Y q r) (hY : Y = a * 4294967296 + b) (hb : b < 4294967296) (hu : u1 < 4294967296) (hU : U < Y)
    (ht : 4294967296 ≤ q ∨ r * 4294967296 + u1 < q * b) (hr : 4294967296 ≤ r + a) : (U * 4294967296 + u1) / Y = q - 1 := by
  have h1 := h.great hY hu hU ht
  have h2 := h.least
  have h3 := h.sum' (Nat.lt_of_le_of_lt (Nat.zero_le _) h1)
  refine Nat.le_antisymm (Nat.le_sub_one_of_lt h1) ?_
  rw [Nat.le_div_iff_mul_le (by omega)]
  have h4 := scaled hY h3
  have h5 : (q - 1) * b ≤ 4294967296 * b := Nat.mul_le_mul_right _ (by omega)
  clear hY h1 ht h
  generalize (q - 1) * b = X at *
  generalize (q - 1) * Y = Z at *
  generalize (q - 1) * a = W at *
  omega

/-- The guess is right. -/
theorem Inv.done {U u1 a b Y q r : Nat} (h : Inv U u1 a Y q r) (hY : Y = a * 4294967296 + b) (hU : U < Y)
    (h2 : q * b ≤ r * 4294967296 + u1) : (U * 4294967296 + u1) / Y = q := by
  refine Nat.le_antisymm h.above ?_
  rw [Nat.le_div_iff_mul_le (by omega)]
  have h4 := scaled hY h.sum
  clear hY h
  generalize q * Y = z at *
  generalize q * b = y at *
  omega

/-- A product that the test asks for fits. -/
theorem prod_lt {q b : Nat} (h : q < 4294967296) (hb : b < 4294967296) : q * b < 18446744073709551616 := by
  have : q * b ≤ 4294967295 * b := Nat.mul_le_mul_right _ (by omega)
  omega

/-- Two digits, one behind the other. -/
theorem two {H u1 u0 Y : Nat} (hY : 0 < Y) :
    (H * 18446744073709551616 + (u1 * 4294967296 + u0)) / Y = (H * 4294967296 + u1) / Y * 4294967296 + (((H * 4294967296 + u1) % Y) * 4294967296 + u0) / Y ∧
    (H * 18446744073709551616 + (u1 * 4294967296 + u0)) % Y = (((H * 4294967296 + u1) % Y) * 4294967296 + u0) % Y := by
  have e : H * 18446744073709551616 + (u1 * 4294967296 + u0) = (((H * 4294967296 + u1) % Y) * 4294967296 + u0) + Y * ((H * 4294967296 + u1) / Y * 4294967296) := by
    have := Nat.div_add_mod (H * 4294967296 + u1) Y
    rw [← Nat.mul_assoc]
    generalize Y * ((H * 4294967296 + u1) / Y) = A at *
    generalize (H * 4294967296 + u1) % Y = B at *
    omega
  rw [e, Nat.add_mul_div_left _ _ hY, Nat.add_mul_mod_self_left]
  exact ⟨Nat.add_comm _ _, rfl⟩

/-- A digit is below 2^32. -/
theorem digit_lt {U u1 Y : Nat} (hu : u1 < 4294967296) (hU : U < Y) : (U * 4294967296 + u1) / Y < 4294967296 := by
  rw [Nat.div_lt_iff_lt_mul (by omega)]
  omega

/-- A number and its divisor, both shifted. -/
theorem shifted (N y s : Nat) : N * 2 ^ s / (y * 2 ^ s) = N / y ∧ N * 2 ^ s % (y * 2 ^ s) / 2 ^ s = N % y := by
  have hs : 0 < 2 ^ s := Nat.two_pow_pos s
  refine ⟨Nat.mul_div_mul_right _ _ hs, ?_⟩
  rw [Nat.mul_mod_mul_right, Nat.mul_div_cancel _ hs]

end Go.Proofs.Ytlbefohabphjlaa.Knuth
