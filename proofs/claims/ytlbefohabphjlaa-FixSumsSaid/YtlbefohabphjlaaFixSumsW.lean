/-
  THE WALK of treadmilllaw1.FixSums: package fix's sums, differences, products and quotients are the reference's.
-/
import Derived.Test.YtlbefohabphjlaaTold1
import Derived.Test.YtlbefohabphjlaaRefFix2
namespace Go.Proofs.Ytlbefohabphjlaa
open Go.RowKit

set_option maxHeartbeats 2000000 in
theorem fixSums_walk (a b : Int) (w : World) (a1 : -9223372036854775808 ≤ a) (a2 : a ≤ 9223372036854775807) (b1 : -9223372036854775808 ≤ b) (b2 : b ≤ 9223372036854775807) :
    Calls Try.prog 11 #[.int .i64 a, .int .i64 b] w fun e w' => e = .returned (.bool true) ∧ Grown w w' := by
  go_enter Try.func11, Try.ntmps11
  go_wp2_with fail
  refine (told_any _).mono ?_; rintro e w1 ⟨rfl, g1⟩
  go_wp2_with fail
  refine (add_any _ _ _ a1 a2 b1 b2).mono ?_; rintro e w' ⟨rfl, rfl⟩
  go_wp2_with fail
  refine (radd_any _ _ _ a1 a2 b1 b2).mono ?_; rintro e w' ⟨rfl, rfl⟩
  go_wp2_with fail
  refine (sub_any _ _ _ a1 a2 b1 b2).mono ?_; rintro e w' ⟨rfl, rfl⟩
  go_wp2_with fail
  refine (rsub_any _ _ _ a1 a2 b1 b2).mono ?_; rintro e w' ⟨rfl, rfl⟩
  go_wp2_with fail
  refine (mul_any _ _ _ a1 a2 b1 b2).mono ?_; rintro e w' ⟨rfl, rfl⟩
  go_wp2_with fail
  refine (rmul_any _ _ _ a1 a2 b1 b2).mono ?_; rintro e w' ⟨rfl, rfl⟩
  go_wp2_with fail
  refine (div_any _ _ _ a1 a2 b1 b2).mono ?_; rintro e w' ⟨rfl, n, rfl⟩
  go_wp2_with fail
  refine (rdiv_any _ _ _ a1 a2 b1 b2).mono ?_; rintro e w' ⟨rfl, m, rfl⟩
  go_wp2_with fail
  go_ret
  exact ⟨rfl, g1⟩

end Go.Proofs.Ytlbefohabphjlaa
