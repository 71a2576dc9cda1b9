/-
  Masks of an int64, shifts of it, and the contracts of package fix on what an int64 holds.
-/
import Derived.Test.YtlbefohabphjlaaTold1
import Derived.Test.YtlbefohabphjlaaFixLaws
namespace Go.Proofs.Ytlbefohabphjlaa
open Go.RowKit

theorem i64_mask (n : Int) (k : Nat) (hk : k ≤ 62) : bits .and .i64 n (2 ^ k - 1) = n % 2 ^ k := by
  have hp : 0 < 2 ^ k := Nat.two_pow_pos k
  have hle : 2 ^ k ≤ 2 ^ 62 := Nat.pow_le_pow_right (by omega) hk
  have e1 : ((2 : Int) ^ k - 1) = ((2 ^ k - 1 : Nat) : Int) := by rw [Int.natCast_sub hp]; simp
  have hm : (BitVec.ofInt 64 ((2 ^ k - 1 : Nat) : Int)).toNat = 2 ^ k - 1 := by
    rw [BitVec.ofInt_natCast, BitVec.toNat_ofNat]; exact Nat.mod_eq_of_lt (by omega)
  have key : (BitVec.ofInt 64 n &&& BitVec.ofInt 64 ((2 ^ k - 1 : Nat) : Int)).toNat = (n % ((2 ^ 64 : Nat) : Int)).toNat % 2 ^ k := by
    rw [BitVec.toNat_and, BitVec.toNat_ofInt, hm, Nat.and_two_pow_sub_one_eq_mod]
  rw [e1]
  show IntKind.i64.wrap ((BitVec.ofInt 64 n &&& BitVec.ofInt 64 ((2 ^ k - 1 : Nat) : Int)).toNat : Nat) = n % 2 ^ k
  rw [key, IntKind.wrap_i64]
  have hlt : (n % ((2 ^ 64 : Nat) : Int)).toNat % 2 ^ k < 2 ^ 62 := Nat.lt_of_lt_of_le (Nat.mod_lt _ hp) hle
  have hcast : (((n % ((2 ^ 64 : Nat) : Int)).toNat % 2 ^ k : Nat) : Int) = n % 2 ^ k := by
    have h2 : ((2 ^ k : Nat) : Int) = (2 : Int) ^ k := by rw [Int.natCast_pow]; rfl
    rw [Int.natCast_emod, Int.toNat_of_nonneg (Int.emod_nonneg _ (by omega)), h2]
    exact Int.emod_emod_of_dvd n ⟨((2 ^ (64 - k) : Nat) : Int), by rw [← h2, ← Int.natCast_mul, ← Nat.pow_add, show k + (64 - k) = 64 by omega]⟩
  omega

/-- A number and a mask of ones. -/
theorem i64_low (n M : Int) (k : Nat) (hk : k ≤ 62) (hM : M + 1 = 2 ^ k) : ∃ u, bits .and .i64 n M = u ∧ 0 ≤ u ∧ u ≤ M := by
  have hp : 0 < 2 ^ k := Nat.two_pow_pos k
  have hp' : (0 : Int) < 2 ^ k := by rw [show ((2 : Int) ^ k) = ((2 ^ k : Nat) : Int) by rw [Int.natCast_pow]; rfl]; omega
  refine ⟨_, rfl, ?_, ?_⟩
  · rw [show M = 2 ^ k - 1 by omega, i64_mask n k hk]; exact Int.emod_nonneg _ (by omega)
  · have : bits .and .i64 n M < 2 ^ k := by rw [show M = 2 ^ k - 1 by omega, i64_mask n k hk]; exact Int.emod_lt_of_pos _ hp'
    omega

theorem div_grown (a b : Int) (w : World) (ha : In a) (hb : In b) : Calls Try.prog 21 #[.int .i64 a, .int .i64 b] w fun e w' => e = .returned (.int .i64 (Fx.div a b)) ∧ Grown w w' := div_at a b _ w ha hb rfl

end Go.Proofs.Ytlbefohabphjlaa
