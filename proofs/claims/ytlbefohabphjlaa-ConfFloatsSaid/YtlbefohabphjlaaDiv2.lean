/-
  THE WALKS of math/bits.Div64 at every numbers whose quotient fits a word, and of fix.Div.
-/
import Derived.Test.YtlbefohabphjlaaDiv
namespace Go.Proofs.Ytlbefohabphjlaa
open Go.RowKit

theorem bitLen_log (y : Nat) (h0 : 0 < y) (h : y < 18446744073709551616) : Lib.bitLen y = y.log2 + 1 := by
  have h1 : 2 ^ y.log2 ≤ y := Nat.log2_self_le (by omega)
  have h2 : y < 2 ^ (y.log2 + 1) := Nat.lt_log2_self
  rw [Lib.bitLen_shift y.log2 y h1 (by omega)]
  have h3 : y / 2 ^ y.log2 = 1 := by
    rw [Nat.pow_succ] at h2
    refine Nat.le_antisymm ?_ ((Nat.le_div_iff_mul_le (Nat.two_pow_pos _)).2 (by omega))
    have := (Nat.div_lt_iff_lt_mul (Nat.two_pow_pos y.log2)).2 (show y < 2 * 2 ^ y.log2 by omega)
    omega
  rw [h3]
  rfl

/-- A divisor shifted till its upper bit is set. -/
theorem shift_top (y : Nat) (h0 : 0 < y) (h : y < 18446744073709551616) : ∃ s, Lib.bitLen y + s = 64 ∧ s < 64 ∧ 9223372036854775808 ≤ y * 2 ^ s ∧ y * 2 ^ s < 18446744073709551616 := by
  have hl : y.log2 < 64 := (Nat.log2_lt (by omega)).2 (by omega)
  have h1 : 2 ^ y.log2 ≤ y := Nat.log2_self_le (by omega)
  have h2 : y < 2 ^ (y.log2 + 1) := Nat.lt_log2_self
  refine ⟨63 - y.log2, by rw [bitLen_log y h0 h]; omega, by omega, ?_, ?_⟩
  · have e : 2 ^ y.log2 * 2 ^ (63 - y.log2) = 9223372036854775808 := by rw [← Nat.pow_add, show y.log2 + (63 - y.log2) = 63 by omega]
    rw [← e]
    exact Nat.mul_le_mul_right _ h1
  · have e : 2 ^ (y.log2 + 1) * 2 ^ (63 - y.log2) = 18446744073709551616 := by rw [← Nat.pow_add, show y.log2 + 1 + (63 - y.log2) = 64 by omega]
    rw [← e]
    exact Nat.mul_lt_mul_of_pos_right h2 (Nat.two_pow_pos _)

theorem wsub {A B C : Nat} (h : B + C = A) (hA : A < 18446744073709551616) : IntKind.u64.wrap ((A : Int) - IntKind.u64.wrap (B : Int)) = (C : Int) := by
  rw [u64_wrap, u64_wrap]; omega
theorem wtop {U u1 P V : Nat} (h : P + V = U * 4294967296 + u1) (hV : V < 18446744073709551616) :
    IntKind.u64.wrap (IntKind.u64.wrap (IntKind.u64.wrap ((U : Int) * 4294967296) + u1) - IntKind.u64.wrap (P : Int)) = (V : Int) := by
  rw [u64_wrap, u64_wrap, u64_wrap, u64_wrap]; omega
theorem wnat {A : Nat} (h : A < 18446744073709551616) : IntKind.u64.wrap (A : Int) = (A : Int) := by rw [u64_wrap]; omega
theorem mask32 (A : Nat) (h : A < 18446744073709551616) : bits .and .u64 (A : Int) 4294967295 = ((A % 4294967296 : Nat) : Int) := by
  have e := u64_mask (A : Int) 32 (by omega) (by omega) (by omega)
  have e2 : ((2 : Int) ^ 32 - 1) = 4294967295 := by decide
  rw [e2] at e
  rw [e]
  omega

theorem div64_pos (hi lo y : Nat) (w : World) (h0 : 0 < hi) (h1 : hi < y) (h2 : y < 18446744073709551616) (h4 : lo < 18446744073709551616) :
    Calls Try.prog 45 #[.int .u64 hi, .int .u64 lo, .int .u64 y] w fun e w' => e = .returned (.tuple #[.int .u64 ((hi * 18446744073709551616 + lo) / y : Nat), .int .u64 ((hi * 18446744073709551616 + lo) % y : Nat)]) ∧ ∃ n, w' = w.drewN n := by
  obtain ⟨s, hs, hs', hY1, hY2⟩ := shift_top y (by omega) h2
  have hp : 0 < 2 ^ s := Nat.two_pow_pos s
  obtain ⟨T, hT⟩ : ∃ T, T = 2 ^ s := ⟨_, rfl⟩
  have hTi : ((2 : Int) ^ s) = (T : Int) := by rw [hT, Int.natCast_pow]; rfl
  obtain ⟨Z, hZ⟩ : ∃ Z, Z = 2 ^ (64 - s) := ⟨_, rfl⟩
  have hZi : ((2 : Int) ^ (64 - s)) = (Z : Int) := by rw [hZ, Int.natCast_pow]; rfl
  have hZp : 0 < Z := by rw [hZ]; exact Nat.two_pow_pos _
  have hTZ : T * Z = 18446744073709551616 := by rw [hT, hZ, ← Nat.pow_add, show s + (64 - s) = 64 by omega]
  rw [← hT] at hp hY1 hY2
  -- the shifted number
  have hlT : lo * T / 18446744073709551616 = lo / Z := by rw [← hTZ, Nat.mul_comm lo T, Nat.mul_div_mul_left _ _ hp]
  have hL := Nat.div_add_mod (lo * T) 18446744073709551616
  rw [hlT] at hL
  obtain ⟨L, hLe⟩ : ∃ L, L = lo * T % 18446744073709551616 := ⟨_, rfl⟩
  have hLl : L < 18446744073709551616 := by rw [hLe]; omega
  rw [← hLe] at hL
  obtain ⟨Y, hYe⟩ : ∃ Y, Y = y * T := ⟨_, rfl⟩
  rw [← hYe] at hY1 hY2
  obtain ⟨U, hUe⟩ : ∃ U, U = hi * T + lo / Z := ⟨_, rfl⟩
  have hN : (hi * 18446744073709551616 + lo) * T = U * 18446744073709551616 + L := by
    rw [Nat.add_mul, hUe, Nat.add_mul, Nat.mul_right_comm hi _ T]
    generalize lo * T = x at *
    generalize hi * T = z at *
    omega
  have hNlt : (hi * 18446744073709551616 + lo) * T < Y * 18446744073709551616 := by
    rw [hYe, Nat.mul_right_comm y T]
    exact Nat.mul_lt_mul_of_pos_right (show hi * 18446744073709551616 + lo < y * 18446744073709551616 by omega) hp
  have hU : U < Y := by rw [hN] at hNlt; omega
  have hU64 : U < 18446744073709551616 := by omega
  obtain ⟨a, hae⟩ : ∃ a, a = Y / 4294967296 := ⟨_, rfl⟩
  obtain ⟨b, hbe⟩ : ∃ b, b = Y % 4294967296 := ⟨_, rfl⟩
  have hY : Y = a * 4294967296 + b := by omega
  obtain ⟨u1, hu1e⟩ : ∃ u1, u1 = L / 4294967296 := ⟨_, rfl⟩
  obtain ⟨u0, hu0e⟩ : ∃ u0, u0 = L % 4294967296 := ⟨_, rfl⟩
  have hLu : L = u1 * 4294967296 + u0 := by omega
  have hinv := Knuth.start (u1 := u1) hY (by omega) (by omega) (by omega) (by omega) hU
  have hdm1 := Nat.div_add_mod (U * 4294967296 + u1) Y
  obtain ⟨V, hVe⟩ : ∃ V, V = (U * 4294967296 + u1) % Y := ⟨_, rfl⟩
  obtain ⟨Q1, hQ1e⟩ : ∃ Q1, Q1 = (U * 4294967296 + u1) / Y := ⟨_, rfl⟩
  have hQ1l := Knuth.digit_lt (u1 := u1) (by omega) hU
  have hV : V < Y := by rw [hVe]; exact Nat.mod_lt _ (by omega)
  rw [← hVe, ← hQ1e, Nat.mul_comm] at hdm1
  rw [← hQ1e] at hQ1l
  have hinv' := Knuth.start (u1 := u0) hY (by omega) (by omega) (by omega) (by omega) hV
  have hdm0 := Nat.div_add_mod (V * 4294967296 + u0) Y
  obtain ⟨R, hRe⟩ : ∃ R, R = (V * 4294967296 + u0) % Y := ⟨_, rfl⟩
  obtain ⟨Q0, hQ0e⟩ : ∃ Q0, Q0 = (V * 4294967296 + u0) / Y := ⟨_, rfl⟩
  have hQ0l := Knuth.digit_lt (u1 := u0) (by omega) hV
  have hR : R < Y := by rw [hRe]; exact Nat.mod_lt _ (by omega)
  rw [← hRe, ← hQ0e, Nat.mul_comm] at hdm0
  rw [← hQ0e] at hQ0l
  have htwo := Knuth.two (H := U) (u1 := u1) (u0 := u0) (Y := Y) (by omega)
  rw [← hVe, ← hQ1e, ← hQ0e, ← hRe, ← hLu, ← hN, hYe, hT] at htwo
  have hsh := Knuth.shifted (hi * 18446744073709551616 + lo) y s
  rw [htwo.1, htwo.2] at hsh
  have hhi : hi * T < 18446744073709551616 := by
    have := Nat.mul_lt_mul_of_pos_right h1 hp
    omega
  have hloZ : lo / Z < T := by
    rw [Nat.div_lt_iff_lt_mul hZp, hTZ]; exact h4
  refine (div64_high hi lo y s Y a b U L u1 u0 (U / a) (U % a) Q1 V (V / a) (V % a) Q0 (Q1 * 4294967296 + Q0) R w h0 h1 h2 hs hs' ?f1 ?f2 ?f3 ?f4 ?f5 ?f6 ?f7 ?f8 ?f9 ?f10 ?f11 ?f12 ?f13 ?f14 hinv hinv' hQ1e.symm hQ0e.symm (by omega) (by omega) (by omega) (by omega) (by omega) hY hU hV).mono ?_
  case f1 => rw [hTi, ← Int.natCast_mul, ← hYe, wnat hY2]
  case f2 => omega
  case f3 => rw [mask32 Y hY2, hbe]
  case f4 =>
    rw [hTi, hZi, ← Int.natCast_mul, wnat hhi, ← Int.natCast_ediv, hUe, Int.natCast_add]
    refine u64_join _ _ s (by omega) ?_ (by omega) ?_ (by omega) (by omega)
    · rw [hTi, ← Int.natCast_emod, Nat.mul_mod_left]; rfl
    · rw [hTi]; omega
  case f5 => rw [hTi, ← Int.natCast_mul, u64_wrap, hLe]; omega
  case f6 => omega
  case f7 => rw [mask32 L hLl, hu0e]
  case f8 => rw [← Int.natCast_ediv, wnat (Nat.lt_of_le_of_lt (Nat.div_le_self _ _) hU64)]
  case f9 => rw [← Int.natCast_mul]; exact wsub hinv.sum hU64
  case f10 => rw [← Int.natCast_mul]; exact wtop hdm1 (by omega)
  case f11 => rw [← Int.natCast_ediv, wnat (Nat.lt_of_le_of_lt (Nat.div_le_self _ _) (by omega))]
  case f12 => rw [← Int.natCast_mul]; exact wsub hinv'.sum (by omega)
  case f13 => rw [u64_wrap, u64_wrap]; omega
  case f14 => rw [← Int.natCast_mul]; exact wtop hdm0 (by omega)
  rintro e w' ⟨rfl, n, rfl⟩
  refine ⟨?_, n, rfl⟩
  rw [← hsh.1, ← hsh.2, Int.natCast_ediv, Int.natCast_pow]
  rfl

theorem div64_any (hi lo y : Int) (w : World) (h0 : 0 ≤ hi) (h1 : hi < y) (h2 : y < 18446744073709551616) (h3 : 0 ≤ lo) (h4 : lo < 18446744073709551616) :
    Calls Try.prog 45 #[.int .u64 hi, .int .u64 lo, .int .u64 y] w fun e w' => e = .returned (.tuple #[.int .u64 ((hi * 18446744073709551616 + lo) / y), .int .u64 ((hi * 18446744073709551616 + lo) % y)]) ∧ ∃ n, w' = w.drewN n := by
  by_cases hz : hi = 0
  · subst hz
    rw [Int.zero_mul, Int.zero_add]
    exact div64_low lo y w (by omega) h2 h3 h4
  · obtain ⟨H, rfl⟩ := Int.eq_ofNat_of_zero_le h0
    obtain ⟨L, rfl⟩ := Int.eq_ofNat_of_zero_le h3
    obtain ⟨Y, rfl⟩ := Int.eq_ofNat_of_zero_le (show 0 ≤ y by omega)
    have h := div64_pos H L Y w (by omega) (by omega) (by omega) (by omega)
    rw [Int.natCast_ediv, Int.natCast_emod, Int.natCast_add, Int.natCast_mul] at h
    exact h

set_option maxHeartbeats 1000000 in
theorem div_zero (a : Int) (w : World) : Calls Try.prog 21 #[.int .i64 a, .int .i64 0] w fun e w' => e = .returned (.int .i64 (Fx.div a 0)) ∧ ∃ n, w' = w.drewN n := by
  go_enter Try.func21, Try.ntmps21
  go_wp2_with fail
  all_goals
    go_ret
    exact ⟨ret_int (by simp only [Fx.div, if_true]; omega), 0, rfl⟩

theorem shl20 (x : Int) : IntKind.u64.wrap (x * 1048576) = x * 1048576 % 18446744073709551616 := u64_wrap _

/-- The two words of a number times 2^20, by a divisor. -/
theorem div_words (x d : Int) (hd : 0 < d) :
    (x / 17592186044416 / d) * 18446744073709551616 + (x / 17592186044416 % d * 18446744073709551616 + x * 1048576 % 18446744073709551616) / d = x * 1048576 / d ∧
    (x / 17592186044416 % d * 18446744073709551616 + x * 1048576 % 18446744073709551616) % d = x * 1048576 % d := by
  have e : x * 1048576 = (x / 17592186044416 % d * 18446744073709551616 + x * 1048576 % 18446744073709551616) + d * (x / 17592186044416 / d * 18446744073709551616) := by
    have := Int.mul_ediv_add_emod (x / 17592186044416) d
    rw [← Int.mul_assoc]
    generalize d * (x / 17592186044416 / d) = A at *
    generalize x / 17592186044416 % d = B at *
    omega
  constructor
  · conv => rhs; rw [e]
    rw [Int.add_mul_ediv_left _ _ (by omega)]
    omega
  · conv => rhs; rw [e]
    rw [Int.add_mul_emod_self_left]

set_option maxHeartbeats 1000000 in
theorem div_rest (a b : Int) (w : World) (h1 : -9223372036854775808 ≤ a) (h2 : a ≤ 9223372036854775807) (h3 : -9223372036854775808 ≤ b) (h4 : b ≤ 9223372036854775807) (hb : b ≠ 0) :
    Calls Try.prog 21 #[.int .i64 a, .int .i64 b] w fun e w' => e = .returned (.int .i64 (Fx.div a b)) ∧ ∃ n, w' = w.drewN n := by
  have hb0 : (b == 0) = false := by simp [hb]
  have Hb := Lib.hid hb
  clear hb
  obtain ⟨x, hx⟩ : ∃ x : Nat, x = a.natAbs := ⟨_, rfl⟩
  obtain ⟨d, hd⟩ : ∃ d : Nat, d = b.natAbs := ⟨_, rfl⟩
  have hx0 : (x : Int) ≤ 9223372036854775808 := by omega
  have hd0 : (d : Int) ≤ 9223372036854775808 := by omega
  have hd1 : (0 : Int) < d := by have := Hb.out; omega
  have hsa : ∀ w, Calls Try.prog 43 #[.int .i64 a] w fun e w' => e = .returned (.int .u64 (x : Int)) ∧ w = w' := fun w => by rw [hx]; exact size_any a w h1 h2
  have hsb : ∀ w, Calls Try.prog 43 #[.int .i64 b] w fun e w' => e = .returned (.int .u64 (d : Int)) ∧ w = w' := fun w => by rw [hd]; exact size_any b w h3 h4
  have HA := Lib.hid hsa
  have HB := Lib.hid hsb
  have Hx := Lib.hid hx
  have Hd := Lib.hid hd
  clear hsa hsb hx hd
  go_enter Try.func21, Try.ntmps21
  go_wp2_with fail
  refine (HA.out _).mono ?_; rintro e w' ⟨rfl, rfl⟩
  go_wp2_with fail
  refine (HB.out _).mono ?_; rintro e w' ⟨rfl, rfl⟩
  go_wp2_with fail
  refine (div64_any _ _ _ _ ?_ ?_ ?_ ?_ ?_).mono ?_
  · exact Int.emod_nonneg _ (by omega)
  · exact Int.emod_lt_of_pos _ hd1
  · omega
  · rw [u64_wrap]; omega
  · rw [u64_wrap]; omega
  rintro e w' ⟨rfl, n, rfl⟩
  go_wp2_with fail
  have g1 : (0 : Int) ≤ x / 17592186044416 / d := Int.ediv_nonneg (by omega) (by omega)
  have g2 : (x : Int) / 17592186044416 / d < 9223372036854775807 := Int.lt_of_le_of_lt (Int.ediv_le_self _ (by omega)) (by omega)
  have e1 := div_words (x : Int) (d : Int) hd1
  rw [← shl20] at e1
  obtain ⟨e1, e2⟩ := e1
  have hm1 := Int.emod_nonneg ((x : Int) / 17592186044416) (show (d : Int) ≠ 0 by omega)
  have hm2 := Int.emod_lt_of_pos ((x : Int) / 17592186044416) hd1
  have hw1 : (0 : Int) ≤ IntKind.u64.wrap ((x : Int) * 1048576) := by rw [u64_wrap]; omega
  have hw2 : IntKind.u64.wrap ((x : Int) * 1048576) < 18446744073709551616 := by rw [u64_wrap]; omega
  have g3 : (0 : Int) ≤ ((x : Int) / 17592186044416 % d * 18446744073709551616 + IntKind.u64.wrap ((x : Int) * 1048576)) / d := Int.ediv_nonneg (by omega) (by omega)
  have g4 : ((x : Int) / 17592186044416 % d * 18446744073709551616 + IntKind.u64.wrap ((x : Int) * 1048576)) / d < 18446744073709551616 := Int.ediv_lt_of_lt_mul hd1 (by omega)
  clear hm1 hm2 hw1 hw2
  generalize ((x : Int) / 17592186044416 % d * 18446744073709551616 + IntKind.u64.wrap ((x : Int) * 1048576)) = W at *
  generalize (x : Int) / 17592186044416 / d = top at *
  refine (made_any _ _ _ _ _ g1 g2 g3 g4).mono ?_
  rintro e w' ⟨rfl, rfl⟩
  go_wp2_with fail
  go_ret
  refine ⟨ret_int ?_, n, rfl⟩
  exact Fx.div_made a b Hb.out _ _ _ (by rw [Int.natCast_mul, ← Hx.out, ← Hd.out]; exact e1) (by rw [Int.natCast_mul, ← Hx.out, ← Hd.out]; exact bne_dec _)

theorem div_any (a b : Int) (w : World) (h1 : -9223372036854775808 ≤ a) (h2 : a ≤ 9223372036854775807) (h3 : -9223372036854775808 ≤ b) (h4 : b ≤ 9223372036854775807) :
    Calls Try.prog 21 #[.int .i64 a, .int .i64 b] w fun e w' => e = .returned (.int .i64 (Fx.div a b)) ∧ ∃ n, w' = w.drewN n := by
  by_cases hb : b = 0
  · subst hb; exact div_zero a w
  · exact div_rest a b w h1 h2 h3 h4 hb
end Go.Proofs.Ytlbefohabphjlaa
