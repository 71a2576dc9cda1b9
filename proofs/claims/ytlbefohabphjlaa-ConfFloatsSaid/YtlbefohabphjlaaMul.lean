/-
  THE WALKS of fix.Mul and fix.Whole: the greatest whole number that is not above a product by 2^20, cut to an int64.
-/
import Derived.Test.YtlbefohabphjlaaFix
import Derived.Lib.Hide
namespace Go.Proofs.Ytlbefohabphjlaa
open Go.RowKit

theorem bne_dec (x : Int) : (x != 0) = decide (x ≠ 0) := by by_cases h : x = 0 <;> simp [h]
theorem mul_lo (P : Int) :
    bits .or .u64 (IntKind.u64.wrap (P / 18446744073709551616 * 17592186044416)) (P % 18446744073709551616 / 1048576) = P / 1048576 % 18446744073709551616 := by
  rw [u64_wrap, u64_join _ _ 44 (by omega) (by omega) (by omega) (by omega) (by omega) (by omega)]
  omega
theorem mul_rest (P : Int) : bits .and .u64 (P % 18446744073709551616) 1048575 = P % 1048576 := by
  have h := u64_mask (P % 18446744073709551616) 20 (by omega) (by omega) (by omega)
  have e : ((2 : Int) ^ 20 - 1) = 1048575 := by decide
  rw [e] at h
  rw [h]
  omega

set_option maxHeartbeats 1000000 in
theorem mul_any (a b : Int) (w : World) (h1 : -9223372036854775808 ≤ a) (h2 : a ≤ 9223372036854775807) (h3 : -9223372036854775808 ≤ b) (h4 : b ≤ 9223372036854775807) :
    Calls Try.prog 20 #[.int .i64 a, .int .i64 b] w fun e w' => e = .returned (.int .i64 (Fx.mul a b)) ∧ w = w' := by
  have hp : a.natAbs * b.natAbs ≤ 9223372036854775808 * 9223372036854775808 := Nat.mul_le_mul (by omega) (by omega)
  have hp' : ((a.natAbs * b.natAbs : Nat) : Int) ≤ 85070591730234615865843651857942052864 := by omega
  rw [Int.natCast_mul] at hp'
  have hp0 : (0 : Int) ≤ (a.natAbs : Int) * b.natAbs := Int.mul_nonneg (by omega) (by omega)
  have e1 := mul_lo ((a.natAbs : Int) * b.natAbs)
  have e2 := mul_rest ((a.natAbs : Int) * b.natAbs)
  go_enter Try.func20, Try.ntmps20
  go_wp2_with fail
  refine (size_any _ _ (by omega) (by omega)).mono ?_; rintro e w' ⟨rfl, rfl⟩
  go_wp2_with fail
  refine (size_any _ _ (by omega) (by omega)).mono ?_; rintro e w' ⟨rfl, rfl⟩
  go_wp2_with fail
  refine (Try.bits_Mul64 _ _ (by omega) (by omega) _).mono ?_; rintro e w' ⟨rfl, rfl⟩
  go_wp2_with fail
  refine (made_any _ _ _ _ _ (by omega) (by omega) (by omega) (by omega)).mono ?_; rintro e w' ⟨rfl, rfl⟩
  go_wp2_with fail
  go_ret
  refine ⟨ret_int ?_, rfl⟩
  clear e1 e2
  have hm := Int.natCast_mul a.natAbs b.natAbs
  have hcut : ((a.natAbs * b.natAbs : Nat) : Int) / 1048576 / 18446744073709551616 * 18446744073709551616 + ((a.natAbs * b.natAbs : Nat) : Int) / 1048576 % 18446744073709551616 = ((a.natAbs * b.natAbs : Nat) : Int) / 1048576 := by omega
  rw [hm] at hcut
  generalize ((a.natAbs : Int) * b.natAbs) = P at *
  exact Fx.mul_made a b _ _ _ (by rw [hm]; omega) (by rw [hm]; exact bne_dec _)

set_option maxHeartbeats 400000 in
theorem whole_any (n : Int) (w : World) (h1 : -9223372036854775808 ≤ n) (h2 : n ≤ 9223372036854775807) :
    Calls Try.prog 18 #[.int .i64 n] w fun e w' => e = .returned (.int .i64 (Fx.whole n)) ∧ w = w' := by
  have e1 : Fx.mul n 1099511627776 = Fx.whole n := by unfold Fx.mul Fx.whole; congr 1; omega
  have E1 := Lib.hid e1
  clear e1
  go_enter Try.func18, Try.ntmps18
  go_wp2_with fail
  refine (mul_any _ _ _ (by omega) (by omega) (by omega) (by omega)).mono ?_; rintro e w' ⟨rfl, rfl⟩
  go_wp2_with fail
  go_ret
  exact ⟨ret_int E1.out, rfl⟩
end Go.Proofs.Ytlbefohabphjlaa
