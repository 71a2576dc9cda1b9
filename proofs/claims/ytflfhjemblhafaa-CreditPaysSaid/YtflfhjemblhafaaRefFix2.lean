/-
  THE WALKS of the reference's Mul and Div (layer 1).
-/
import Derived.Test.YtflfhjemblhafaaRefFix
namespace Go.Proofs.Ytflfhjemblhafaa
open Go.RowKit

theorem mul_none {a b : Int} (h : (a.natAbs : Int) * b.natAbs = 0) : Fx.mul a b = 0 := by
  have : a * b = 0 := by
    have h2 : (a * b).natAbs = 0 := by rw [Int.natAbs_mul]; exact_mod_cast h
    omega
  unfold Fx.mul
  rw [this]; rfl

set_option maxHeartbeats 1000000 in
theorem rmul_zero (a b : Int) (w : World) (h1 : -9223372036854775808 ≤ a) (h2 : a ≤ 9223372036854775807) (h3 : -9223372036854775808 ≤ b) (h4 : b ≤ 9223372036854775807) (hz : (a.natAbs : Int) * b.natAbs = 0) :
    Calls Try.prog 47 #[.int .i64 a, .int .i64 b] w fun e w' => e = .returned (.int .i64 (Fx.mul a b)) ∧ w = w' := by
  rw [mul_none hz]
  go_enter Try.func47, Try.ntmps47
  go_wp2_with fail
  refine (rsize_any _ _ (by omega) (by omega)).mono ?_; rintro e w' ⟨rfl, rfl⟩
  go_wp2_with fail
  refine (rsize_any _ _ (by omega) (by omega)).mono ?_; rintro e w' ⟨rfl, rfl⟩
  go_wp2_with fail
  refine (Try.bits_Mul64 _ _ (by omega) (by omega) _).mono ?_; rintro e w' ⟨rfl, rfl⟩
  go_wp2_with fail
  go_ret
  exact ⟨rfl, rfl⟩

set_option maxHeartbeats 2000000 in
theorem rmul_pos (a b : Int) (w : World) (h1 : -9223372036854775808 ≤ a) (h2 : a ≤ 9223372036854775807) (h3 : -9223372036854775808 ≤ b) (h4 : b ≤ 9223372036854775807) (hz : 0 < (a.natAbs : Int) * b.natAbs)
    (hc : (((a.natAbs : Int) * b.natAbs / 18446744073709551616 == 0) = false) ∨ (((a.natAbs : Int) * b.natAbs / 18446744073709551616 == 0) = true ∧ ((a.natAbs : Int) * b.natAbs % 18446744073709551616 == 0) = false)) :
    Calls Try.prog 47 #[.int .i64 a, .int .i64 b] w fun e w' => e = .returned (.int .i64 (Fx.mul a b)) ∧ w = w' := by
  have hp : a.natAbs * b.natAbs ≤ 9223372036854775808 * 9223372036854775808 := Nat.mul_le_mul (by omega) (by omega)
  have hp' : ((a.natAbs * b.natAbs : Nat) : Int) ≤ 85070591730234615865843651857942052864 := by omega
  rw [Int.natCast_mul] at hp'
  have e1 := mul_lo ((a.natAbs : Int) * b.natAbs)
  have e2 := mul_rest ((a.natAbs : Int) * b.natAbs)
  rcases hc with c1 | ⟨c1, c2⟩
  all_goals
    go_enter Try.func47, Try.ntmps47
    go_wp2_with fail
    refine (rsize_any _ _ (by omega) (by omega)).mono ?_; rintro e w' ⟨rfl, rfl⟩
    go_wp2_with fail
    refine (rsize_any _ _ (by omega) (by omega)).mono ?_; rintro e w' ⟨rfl, rfl⟩
    go_wp2_with fail
    refine (Try.bits_Mul64 _ _ (by omega) (by omega) _).mono ?_; rintro e w' ⟨rfl, rfl⟩
    go_wp2_with fail
    refine (signed_any _ _ _ _ _ (by omega) (by omega) (by omega) (by omega)).mono ?_; rintro e w' ⟨rfl, rfl⟩
    go_wp2_with fail
    go_ret
    refine ⟨ret_int ?_, rfl⟩
    clear e1 e2
    have hm := Int.natCast_mul a.natAbs b.natAbs
    have hcut : ((a.natAbs * b.natAbs : Nat) : Int) / 1048576 / 18446744073709551616 * 18446744073709551616 + ((a.natAbs * b.natAbs : Nat) : Int) / 1048576 % 18446744073709551616 = ((a.natAbs * b.natAbs : Nat) : Int) / 1048576 := by omega
    rw [hm] at hcut
    generalize ((a.natAbs : Int) * b.natAbs) = P at *
    exact Fx.mul_made a b _ _ _ (by rw [hm]; omega) (by rw [hm]; exact bne_dec _)

theorem rmul_any (a b : Int) (w : World) (h1 : -9223372036854775808 ≤ a) (h2 : a ≤ 9223372036854775807) (h3 : -9223372036854775808 ≤ b) (h4 : b ≤ 9223372036854775807) :
    Calls Try.prog 47 #[.int .i64 a, .int .i64 b] w fun e w' => e = .returned (.int .i64 (Fx.mul a b)) ∧ w = w' := by
  have h0 : (0 : Int) ≤ (a.natAbs : Int) * b.natAbs := Int.mul_nonneg (by omega) (by omega)
  by_cases hz : (a.natAbs : Int) * b.natAbs = 0
  · exact rmul_zero a b w h1 h2 h3 h4 hz
  · refine rmul_pos a b w h1 h2 h3 h4 (by omega) ?_
    by_cases hc : (a.natAbs : Int) * b.natAbs / 18446744073709551616 = 0
    · exact Or.inr ⟨by simp [hc], by simp; omega⟩
    · exact Or.inl (by simp [hc])

set_option maxHeartbeats 1000000 in
theorem rdiv_none (b : Int) (w : World) : Calls Try.prog 44 #[.int .i64 0, .int .i64 b] w fun e w' => e = .returned (.int .i64 (Fx.div 0 b)) ∧ ∃ n, w' = w.drewN n := by
  have e : Fx.div 0 b = 0 := by
    unfold Fx.div
    by_cases h : b = 0
    · rw [if_pos h]; rfl
    · rw [if_neg h, Int.zero_mul, Int.zero_fdiv]; rfl
  rw [e]
  clear e
  go_enter Try.func44, Try.ntmps44
  go_wp2_with fail
  go_ret
  exact ⟨rfl, 0, rfl⟩

set_option maxHeartbeats 1000000 in
theorem rdiv_zero (a : Int) (w : World) (ha : (a == 0) = false) (hc : (0 < a ∧ Fx.div a 0 = 9223372036854775807) ∨ (a ≤ 0 ∧ Fx.div a 0 = -9223372036854775808)) :
    Calls Try.prog 44 #[.int .i64 a, .int .i64 0] w fun e w' => e = .returned (.int .i64 (Fx.div a 0)) ∧ ∃ n, w' = w.drewN n := by
  rcases hc with ⟨h, e⟩ | ⟨h, e⟩
  all_goals
    rw [e]
    clear e
    go_enter Try.func44, Try.ntmps44
    go_wp2_with fail
    go_ret
    exact ⟨rfl, 0, rfl⟩

set_option maxHeartbeats 1000000 in
theorem rdiv_rest (a b : Int) (w : World) (h1 : -9223372036854775808 ≤ a) (h2 : a ≤ 9223372036854775807) (h3 : -9223372036854775808 ≤ b) (h4 : b ≤ 9223372036854775807) (ha0 : (a == 0) = false) (hb : b ≠ 0) :
    Calls Try.prog 44 #[.int .i64 a, .int .i64 b] w fun e w' => e = .returned (.int .i64 (Fx.div a b)) ∧ ∃ n, w' = w.drewN n := by
  have hb0 : (b == 0) = false := by simp [hb]
  have Hb := Lib.hid hb
  clear hb
  obtain ⟨x, hx⟩ : ∃ x : Nat, x = a.natAbs := ⟨_, rfl⟩
  obtain ⟨d, hd⟩ : ∃ d : Nat, d = b.natAbs := ⟨_, rfl⟩
  have hx0 : (x : Int) ≤ 9223372036854775808 := by omega
  have hd0 : (d : Int) ≤ 9223372036854775808 := by omega
  have hd1 : (0 : Int) < d := by have := Hb.out; omega
  have hsa : ∀ w, Calls Try.prog 59 #[.int .i64 a] w fun e w' => e = .returned (.int .u64 (x : Int)) ∧ w = w' := fun w => by rw [hx]; exact rsize_any a w h1 h2
  have hsb : ∀ w, Calls Try.prog 59 #[.int .i64 b] w fun e w' => e = .returned (.int .u64 (d : Int)) ∧ w = w' := fun w => by rw [hd]; exact rsize_any b w h3 h4
  have HA := Lib.hid hsa
  have HB := Lib.hid hsb
  have Hx := Lib.hid hx
  have Hd := Lib.hid hd
  clear hsa hsb hx hd
  go_enter Try.func44, Try.ntmps44
  go_wp2_with fail
  refine (HA.out _).mono ?_; rintro e w' ⟨rfl, rfl⟩
  go_wp2_with fail
  refine (HB.out _).mono ?_; rintro e w' ⟨rfl, rfl⟩
  go_wp2_with fail
  refine (div64_any _ _ _ _ ?_ ?_ ?_ ?_ ?_).mono ?_
  · exact Int.emod_nonneg _ (by omega)
  · exact Int.emod_lt_of_pos _ hd1
  · omega
  · rw [u64_wrap]; omega
  · rw [u64_wrap]; omega
  rintro e w' ⟨rfl, n, rfl⟩
  go_wp2_with fail
  have g1 : (0 : Int) ≤ x / 17592186044416 / d := Int.ediv_nonneg (by omega) (by omega)
  have g2 : (x : Int) / 17592186044416 / d < 9223372036854775807 := Int.lt_of_le_of_lt (Int.ediv_le_self _ (by omega)) (by omega)
  have e1 := div_words (x : Int) (d : Int) hd1
  rw [← shl20] at e1
  obtain ⟨e1, e2⟩ := e1
  have hm1 := Int.emod_nonneg ((x : Int) / 17592186044416) (show (d : Int) ≠ 0 by omega)
  have hm2 := Int.emod_lt_of_pos ((x : Int) / 17592186044416) hd1
  have hw1 : (0 : Int) ≤ IntKind.u64.wrap ((x : Int) * 1048576) := by rw [u64_wrap]; omega
  have hw2 : IntKind.u64.wrap ((x : Int) * 1048576) < 18446744073709551616 := by rw [u64_wrap]; omega
  have g3 : (0 : Int) ≤ ((x : Int) / 17592186044416 % d * 18446744073709551616 + IntKind.u64.wrap ((x : Int) * 1048576)) / d := Int.ediv_nonneg (by omega) (by omega)
  have g4 : ((x : Int) / 17592186044416 % d * 18446744073709551616 + IntKind.u64.wrap ((x : Int) * 1048576)) / d < 18446744073709551616 := Int.ediv_lt_of_lt_mul hd1 (by omega)
  clear hm1 hm2 hw1 hw2
  generalize ((x : Int) / 17592186044416 % d * 18446744073709551616 + IntKind.u64.wrap ((x : Int) * 1048576)) = W at *
  generalize (x : Int) / 17592186044416 / d = top at *
  refine (signed_any _ _ _ _ _ g1 g2 g3 g4).mono ?_
  rintro e w' ⟨rfl, rfl⟩
  go_wp2_with fail
  go_ret
  refine ⟨ret_int ?_, n, rfl⟩
  exact Fx.div_made a b Hb.out _ _ _ (by rw [Int.natCast_mul, ← Hx.out, ← Hd.out]; exact e1) (by rw [Int.natCast_mul, ← Hx.out, ← Hd.out]; exact bne_dec _)

theorem rdiv_any (a b : Int) (w : World) (h1 : -9223372036854775808 ≤ a) (h2 : a ≤ 9223372036854775807) (h3 : -9223372036854775808 ≤ b) (h4 : b ≤ 9223372036854775807) :
    Calls Try.prog 44 #[.int .i64 a, .int .i64 b] w fun e w' => e = .returned (.int .i64 (Fx.div a b)) ∧ ∃ n, w' = w.drewN n := by
  by_cases ha : a = 0
  · subst ha; exact rdiv_none b w
  · by_cases hb : b = 0
    · subst hb
      refine rdiv_zero a w (by simp [ha]) ?_
      by_cases hp : 0 < a
      · exact Or.inl ⟨hp, by unfold Fx.div; rw [if_pos rfl, if_pos hp]⟩
      · exact Or.inr ⟨by omega, by unfold Fx.div; rw [if_pos rfl, if_neg hp, if_pos (by omega)]⟩
    · exact rdiv_rest a b w h1 h2 h3 h4 (by simp [ha]) hb

end Go.Proofs.Ytflfhjemblhafaa
