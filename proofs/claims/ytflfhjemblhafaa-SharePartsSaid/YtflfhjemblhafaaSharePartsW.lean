/-
  THE WALK of treadmilllaw24.ShareParts: the dedicated ones and the others' parts together are the part of all, but for less than one part of 2^20 each.
-/
import Derived.Test.YtflfhjemblhafaaShare
namespace Go.Proofs.Ytflfhjemblhafaa
open Go.RowKit

/-- A number as an unsigned one, modulo another. -/
theorem utmod (a m : Int) (hm : 0 < m) : ∃ x, (IntKind.u64.wrap a).tmod m = x ∧ 0 ≤ x ∧ x < m := by
  refine ⟨_, rfl, ?_, ?_⟩
  · rw [u64_wrap, Int.tmod_eq_emod_of_nonneg (by omega)]; exact Int.emod_nonneg _ (by omega)
  · rw [u64_wrap, Int.tmod_eq_emod_of_nonneg (by omega)]; exact Int.emod_lt_of_pos _ hm

theorem mask20 (n : Int) : bits .and .i64 n 1048575 = n % 1048576 := by
  have hm : (BitVec.ofInt 64 1048575).toNat = 2 ^ 20 - 1 := by decide
  have key : (BitVec.ofInt 64 n &&& BitVec.ofInt 64 1048575).toNat = (n % ((2 ^ 64 : Nat) : Int)).toNat % 2 ^ 20 := by
    rw [BitVec.toNat_and, BitVec.toNat_ofInt, hm, Nat.and_two_pow_sub_one_eq_mod]
  show IntKind.i64.wrap ((BitVec.ofInt 64 n &&& BitVec.ofInt 64 1048575).toNat : Nat) = n % 1048576
  rw [key, IntKind.wrap_i64]
  omega

set_option maxHeartbeats 2000000 in
theorem shareParts_core (a b x p d f P : Int) (w : World) (hx : (IntKind.u64.wrap a).tmod 64 = x) (x0 : 0 ≤ x) (x1 : x < 64) (hp : bits .and .i64 b 1048575 = p)
    (hd : Hid (Sh.dd (cl 1 64 (1 + x)) (cl 0 1048576 p) = d)) (hf : Hid (Sh.ff (cl 1 64 (1 + x)) (cl 0 1048576 p) = f))
    (d0 : 0 ≤ d) (d1 : d ≤ 1 + x) (f0 : 0 ≤ f) (f1 : f < 1048576) (hfn : f * (1 + x) = P) (P0 : 0 ≤ P) (P1 : P ≤ 67108864) (M : Int) (hM : (1 + x) * p = M) (M0 : 0 ≤ M) (M1 : M ≤ 67108864) (s1 : d * 1048576 + P ≤ M) (s2 : M - (1 + x) < d * 1048576 + P) :
    Calls Try.prog 4 #[.int .i64 a, .int .i64 b] w fun e w' => e = .returned (.bool true) ∧ Grown w w' := by
  go_enter Try.func4, Try.ntmps4
  go_wp2_with fail
  refine (workers_grown _ _ _ _ _ hd.out hf.out).mono ?_; rintro e w1 ⟨rfl, g1⟩
  go_wp2_with fail
  refine (told24_any _).mono ?_; rintro e w3 ⟨rfl, g3⟩
  go_wp2_with fail
  go_ret
  exact ⟨rfl, grown_trans g1 g3⟩

theorem shareParts_walk (a b : Int) (w : World) (_a1 : -9223372036854775808 ≤ a) (_a2 : a ≤ 9223372036854775807) (_b1 : -9223372036854775808 ≤ b) (_b2 : b ≤ 9223372036854775807) :
    Calls Try.prog 4 #[.int .i64 a, .int .i64 b] w fun e w' => e = .returned (.bool true) ∧ Grown w w' := by
  obtain ⟨x, hx, x0, x1⟩ := utmod a 64 (by omega)
  obtain ⟨p, hp⟩ : ∃ p, b % 1048576 = p := ⟨_, rfl⟩
  have H := Sh.at_of (n := 1 + x) (p := p) (by omega) (by omega) (by omega) (by omega)
  have c1 : cl 1 64 (1 + x) = 1 + x := cl_in (by omega) (by omega)
  have c2 : cl 0 1048576 p = p := cl_in (by omega) (by omega)
  have hP0 : 0 ≤ Sh.ff (1 + x) p * (1 + x) := Int.mul_nonneg H.f1 (by omega)
  refine shareParts_core a b x p _ _ _ w hx x0 x1 (by rw [mask20]; exact hp) (by rw [c1, c2]; exact Lib.hid rfl) (by rw [c1, c2]; exact Lib.hid rfl) H.d1 H.dn H.f1 H.f2 rfl hP0 ?_ _ rfl H.prod0 H.prod H.sum1 H.sum2
  have := H.sum1
  have := H.d1
  have := H.prod
  omega

end Go.Proofs.Ytflfhjemblhafaa
