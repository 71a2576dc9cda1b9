/-
  THE WALK of treadmilllaw1.FixEnds: what is beyond an int64 is the nearer end.
-/
import Derived.Test.YtlbefohabphjlaaFixMask
namespace Go.Proofs.Ytlbefohabphjlaa
open Go.RowKit

set_option maxHeartbeats 4000000 in
theorem fixEnds_walk (a b : Int) (w : World) (_a1 : -9223372036854775808 ≤ a) (_a2 : a ≤ 9223372036854775807) (b1 : -9223372036854775808 ≤ b) (b2 : b ≤ 9223372036854775807) :
    Calls Try.prog 4 #[.int .i64 a, .int .i64 b] w fun e w' => e = .returned (.bool true) ∧ Grown w w' := by
  obtain ⟨u, hu, hu0, hu1⟩ := i64_low a 1152921504606846975 60 (by omega) (by decide)
  obtain ⟨v, hv, hv0, hv1⟩ := i64_low b 1152921504606846975 60 (by omega) (by decide)
  obtain ⟨t, ht, ht0, ht1⟩ := i64_low (1125899906842624 + u) 1023 10 (by omega) (by decide)
  go_enter Try.func4, Try.ntmps4
  go_wp2_with fail
  refine (told_any _).mono ?_; rintro e w1 ⟨rfl, g1⟩
  go_wp2_with fail
  refine (mul_at _ _ _ _ (in_mk (by omega) (by omega)) (in_mk (by omega) (by omega)) (Fx.mul_hi (by omega) (by omega))).mono ?_; rintro e w' ⟨rfl, rfl⟩
  go_wp2_with fail
  refine (mul_at _ _ _ _ (in_mk (by omega) (by omega)) (in_mk (by omega) (by omega)) (Fx.mul_lo' (by omega) (by omega))).mono ?_; rintro e w' ⟨rfl, rfl⟩
  go_wp2_with fail
  refine (mul_at _ _ _ _ (in_mk (by omega) (by omega)) (in_mk (by omega) (by omega)) (Fx.mul_hi' (by omega) (by omega))).mono ?_; rintro e w' ⟨rfl, rfl⟩
  go_wp2_with fail
  refine (add_at _ _ 9223372036854775807 _ (in_mk (by omega) (by omega)) (in_mk (by omega) (by omega)) (Fx.sat_hi (by omega))).mono ?_; rintro e w' ⟨rfl, rfl⟩
  go_wp2_with fail
  refine (sub_at _ _ (-9223372036854775808) _ (in_mk (by omega) (by omega)) (in_mk (by omega) (by omega)) (Fx.sat_lo (by omega))).mono ?_; rintro e w' ⟨rfl, rfl⟩
  go_wp2_with fail
  refine (div_at _ _ _ _ (in_mk (by omega) (by omega)) (in_mk (by omega) (by omega)) (Fx.div_one_hi (by omega))).mono ?_; rintro e w2 ⟨rfl, g2⟩
  go_wp2_with fail
  refine (div_at _ _ _ _ (in_mk (by omega) (by omega)) (in_mk (by omega) (by omega)) (Fx.div_one_lo (by omega))).mono ?_; rintro e w3 ⟨rfl, g3⟩
  go_wp2_with fail
  refine (div_at _ _ _ _ (in_mk (by omega) (by omega)) (in_mk (by omega) (by omega)) (Fx.div_m1_lo (by omega))).mono ?_; rintro e w4 ⟨rfl, g4⟩
  go_wp2_with fail
  refine (whole_at _ _ _ (in_mk (by omega) (by omega)) (Fx.whole_hi (by omega))).mono ?_; rintro e w' ⟨rfl, rfl⟩
  go_wp2_with fail
  refine (whole_at _ _ _ (in_mk (by omega) (by omega)) (Fx.whole_lo (by omega))).mono ?_; rintro e w' ⟨rfl, rfl⟩
  go_wp2_with fail
  refine (div_at _ _ _ _ (in_mk (by omega) (by omega)) ⟨b1, b2⟩ (Fx.div_0 b)).mono ?_; rintro e w5 ⟨rfl, g5⟩
  go_wp2_with fail
  refine (mul_at _ _ _ _ (in_mk (by omega) (by omega)) ⟨b1, b2⟩ (Fx.mul_0 b)).mono ?_; rintro e w' ⟨rfl, rfl⟩
  go_wp2_with fail
  go_ret
  exact ⟨rfl, grown_trans g1 (grown_trans g2 (grown_trans g3 (grown_trans g4 g5)))⟩

end Go.Proofs.Ytlbefohabphjlaa
