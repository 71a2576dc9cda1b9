/-
  THE WALK of treadmilllaw1.FixParts: a quotient times its divisor is at most the number, and one part more is beyond it.
-/
import Derived.Test.YtlbefohabphjlaaFixMask
namespace Go.Proofs.Ytlbefohabphjlaa
open Go.RowKit

theorem i64_rem (a m : Int) (hm : 0 < m) : ∃ x, a.tmod m = x ∧ -m < x ∧ x < m := by
  refine ⟨_, rfl, ?_, ?_⟩
  · have := Int.lt_tmod_of_pos a hm; omega
  · exact Int.tmod_lt_of_pos a hm

set_option maxHeartbeats 2000000 in
theorem fixParts_core (a b x u q P : Int) (w : World) (hx : a.tmod 1073741824 = x) (hx1 : -1073741824 < x) (hx2 : x < 1073741824)
    (hu : bits .and .i64 b 1073741823 = u) (hu0 : 0 ≤ u) (hu1 : u ≤ 1073741823) (hd : Hid (Fx.div x (1 + u) = q)) (hd' : Hid (Fx.div (-x) (-(1 + u)) = q))
    (hP : wrap64 (q * (1 + u)) = P) (hP1 : P ≤ x * 1048576) (hP2 : x * 1048576 < P + (1 + u)) :
    Calls Try.prog 5 #[.int .i64 a, .int .i64 b] w fun e w' => e = .returned (.bool true) ∧ Grown w w' := by
  go_enter Try.func5, Try.ntmps5
  go_wp2_with fail
  refine (div_at _ _ _ _ (in_mk (by omega) (by omega)) (in_mk (by omega) (by omega)) hd.out).mono ?_; rintro e w1 ⟨rfl, g1⟩
  go_wp2_with fail
  refine (told_any _).mono ?_; rintro e w2 ⟨rfl, g2⟩
  go_wp2_with fail
  refine (div_at _ _ _ _ (in_mk (by omega) (by omega)) (in_mk (by omega) (by omega)) hd'.out).mono ?_; rintro e w3 ⟨rfl, g3⟩
  go_wp2_with fail
  go_ret
  exact ⟨rfl, grown_trans g1 (grown_trans g2 g3)⟩

theorem fixParts_walk (a b : Int) (w : World) (_a1 : -9223372036854775808 ≤ a) (_a2 : a ≤ 9223372036854775807) (_b1 : -9223372036854775808 ≤ b) (_b2 : b ≤ 9223372036854775807) :
    Calls Try.prog 5 #[.int .i64 a, .int .i64 b] w fun e w' => e = .returned (.bool true) ∧ Grown w w' := by
  obtain ⟨x, hx, hx1, hx2⟩ := i64_rem a 1073741824 (by omega)
  obtain ⟨u, hu, hu0, hu1⟩ := i64_low b 1073741823 30 (by omega) (by decide)
  obtain ⟨d1, d2, p1, p2, q1, q2⟩ := Fx.parts (x := x) (y := 1 + u) hx1 hx2 (by omega) (by omega) rfl
  generalize x * 1048576 / (1 + u) = q at *
  have hP : wrap64 (q * (1 + u)) = q * (1 + u) := by
    unfold wrap64
    generalize q * (1 + u) = P at *
    omega
  exact fixParts_core a b x u q _ w hx hx1 hx2 hu hu0 hu1 d1 d2 hP p1 p2

end Go.Proofs.Ytlbefohabphjlaa
