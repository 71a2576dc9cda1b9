/-
  THE WALK of treadmilllaw1.FixBack: whole numbers come back; a product divided again is short of the number by less than a part for each whole of the divisor.
-/
import Derived.Test.YtlbefohabphjlaaFixMask
namespace Go.Proofs.Ytlbefohabphjlaa
open Go.RowKit

theorem i64_rem (a m : Int) (hm : 0 < m) : ∃ x, a.tmod m = x ∧ -m < x ∧ x < m := by
  refine ⟨_, rfl, ?_, ?_⟩
  · have := Int.lt_tmod_of_pos a hm; omega
  · exact Int.tmod_lt_of_pos a hm

set_option maxHeartbeats 2000000 in
theorem fixBack_core (n a b m x u M p : Int) (w : World) (hm : n.tmod 1099511627776 = m) (hm1 : -1099511627776 < m) (hm2 : m < 1099511627776)
    (hx : a.tmod 1099511627776 = x) (hx1 : -1099511627776 < x) (hx2 : x < 1099511627776)
    (hu : bits .and .i64 b 1099511627775 = u) (hu0 : 0 ≤ u) (hu1 : u ≤ 1099511627775) (hM : Hid (Fx.mul x (1048576 + u) = M)) (hMi : Hid (In M)) (hp : Hid (Fx.div M (1048576 + u) = p))
    (p1 : p ≤ x) (p2 : x - 2 ≤ p) (hw : Hid (Fx.whole m = m * 1048576)) (hi : Hid (Fx.int (m * 1048576) = m)) :
    Calls Try.prog 8 #[.int .i64 n, .int .i64 a, .int .i64 b] w fun e w' => e = .returned (.bool true) ∧ Grown w w' := by
  go_enter Try.func8, Try.ntmps8
  go_wp2_with fail
  refine (mul_at _ _ _ _ (in_mk (by omega) (by omega)) (in_mk (by omega) (by omega)) hM.out).mono ?_; rintro e w' ⟨rfl, rfl⟩
  go_wp2_with fail
  refine (div_at _ _ _ _ hMi.out (in_mk (by omega) (by omega)) hp.out).mono ?_; rintro e w1 ⟨rfl, g1⟩
  go_wp2_with fail
  refine (told_any _).mono ?_; rintro e w2 ⟨rfl, g2⟩
  go_wp2_with fail
  refine (whole_at _ _ _ (in_mk (by omega) (by omega)) hw.out).mono ?_; rintro e w' ⟨rfl, rfl⟩
  go_wp2_with fail
  refine (int_at _ _ _ hi.out).mono ?_; rintro e w' ⟨rfl, rfl⟩
  go_wp2_with fail
  go_ret
  exact ⟨rfl, grown_trans g1 g2⟩

theorem fixBack_walk (n a b : Int) (w : World) (_n1 : -9223372036854775808 ≤ n) (_n2 : n ≤ 9223372036854775807) (_a1 : -9223372036854775808 ≤ a) (_a2 : a ≤ 9223372036854775807) (_b1 : -9223372036854775808 ≤ b) (_b2 : b ≤ 9223372036854775807) :
    Calls Try.prog 8 #[.int .i64 n, .int .i64 a, .int .i64 b] w fun e w' => e = .returned (.bool true) ∧ Grown w w' := by
  obtain ⟨m, hm, hm1, hm2⟩ := i64_rem n 1099511627776 (by omega)
  obtain ⟨x, hx, hx1, hx2⟩ := i64_rem a 1099511627776 (by omega)
  obtain ⟨u, hu, hu0, hu1⟩ := i64_low b 1099511627775 40 (by omega) (by decide)
  obtain ⟨e1, e2, e3⟩ := Fx.back_prod (x := x) (y := 1048576 + u) hx1 hx2 (by omega) (by omega)
  obtain ⟨d1, p1, p2, -, -⟩ := Fx.back (x := x) (y := 1048576 + u) hx1 hx2 (by omega) rfl
  obtain ⟨w1, w2⟩ := Fx.back_whole hm1 hm2
  exact fixBack_core n a b m x u _ _ w hm hm1 hm2 hx hx1 hx2 hu hu0 hu1 e1 ⟨e2, e3⟩ d1 p1 p2 w1 w2

end Go.Proofs.Ytlbefohabphjlaa
