/-
  THE WALK of treadmilllaw1.FixHalves: a product by a half is the half, rounded down; twice a half is the number or one less.
-/
import Derived.Test.YtlbefohabphjlaaFixMask
namespace Go.Proofs.Ytlbefohabphjlaa
open Go.RowKit

set_option maxHeartbeats 2000000 in
theorem fixHalves_core (a h t : Int) (w : World) (a1 : -9223372036854775808 ≤ a) (a2 : a ≤ 9223372036854775807)
    (hh : Hid (Fx.mul a 524288 = h)) (ht : Hid (Fx.mul h 2097152 = t)) (hd : Hid (Fx.div a 2097152 = h))
    (b1 : -9223372036854775808 ≤ h) (b2 : h ≤ 9223372036854775807) (t1 : t ≤ a) (t2 : a - 1 ≤ t)
    (hc : (a < 0 ∧ (a.tmod 2 != 0) = true ∧ wrap64 (a.tdiv 2 - 1) = h ∧ (a - t == 0) = false ∧ (a - t == 1) = true) ∨
      (a < 0 ∧ (a.tmod 2 != 0) = false ∧ a.tdiv 2 = h ∧ (a - t == 0) = true) ∨
      (0 ≤ a ∧ a / 2 = h ∧ (a - t == 0) = true) ∨ (0 ≤ a ∧ a / 2 = h ∧ (a - t == 0) = false ∧ (a - t == 1) = true)) :
    Calls Try.prog 9 #[.int .i64 a] w fun e w' => e = .returned (.bool true) ∧ Grown w w' := by
  rcases hc with ⟨c1, c2, c3, c4, c5⟩ | ⟨c1, c2, c3, c4⟩ | ⟨c1, c3, c4⟩ | ⟨c1, c3, c4, c5⟩
  all_goals
    go_enter Try.func9, Try.ntmps9
    go_wp2_with fail
    refine (mul_at _ _ _ _ (in_mk (by omega) (by omega)) (in_mk (by omega) (by omega)) hh.out).mono ?_; rintro e w' ⟨rfl, rfl⟩
    go_wp2_with fail
    refine (mul_at _ _ _ _ (in_mk (by omega) (by omega)) (in_mk (by omega) (by omega)) ht.out).mono ?_; rintro e w' ⟨rfl, rfl⟩
    go_wp2_with fail
    refine (told_any _).mono ?_; rintro e w2 ⟨rfl, g2⟩
    go_wp2_with fail
    refine (div_at _ _ _ _ (in_mk (by omega) (by omega)) (in_mk (by omega) (by omega)) hd.out).mono ?_; rintro e w3 ⟨rfl, g3⟩
    go_wp2_with fail
    go_ret
    exact ⟨rfl, grown_trans g2 g3⟩

theorem fixHalves_walk (a : Int) (w : World) (a1 : -9223372036854775808 ≤ a) (a2 : a ≤ 9223372036854775807) :
    Calls Try.prog 9 #[.int .i64 a] w fun e w' => e = .returned (.bool true) ∧ Grown w w' := by
  have h1 := Fx.half a a1 a2
  have h2 := Fx.twice a a1 a2
  have h3 := Fx.halved a a1 a2
  refine fixHalves_core a (a / 2) (a / 2 * 2) w a1 a2 h1 h2 h3 (by omega) (by omega) (by omega) (by omega) ?_
  have e := Int.mul_tdiv_add_tmod a 2
  rcases Int.lt_or_le a 0 with hn | hn
  · have e1 : -2 < a.tmod 2 := by have := Int.lt_tmod_of_pos a (show (0 : Int) < 2 by omega); omega
    have e2 : a.tmod 2 ≤ 0 := by
      have := Int.neg_tmod (-a) 2
      rw [Int.neg_neg] at this
      rw [this, Int.tmod_eq_emod_of_nonneg (by omega)]
      omega
    by_cases hm : a.tmod 2 = 0
    · exact Or.inr (Or.inl ⟨hn, by simp [hm], by omega, by simp; omega⟩)
    · refine Or.inl ⟨hn, by simp [hm], ?_, by simp; omega, by simp; omega⟩
      unfold wrap64; omega
  · by_cases hm : a % 2 = 0
    · exact Or.inr (Or.inr (Or.inl ⟨hn, rfl, by simp; omega⟩))
    · exact Or.inr (Or.inr (Or.inr ⟨hn, rfl, by simp; omega, by simp; omega⟩))

end Go.Proofs.Ytlbefohabphjlaa
