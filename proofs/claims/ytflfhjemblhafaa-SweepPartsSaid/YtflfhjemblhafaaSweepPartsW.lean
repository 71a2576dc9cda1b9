/-
  THE WALK of treadmilllaw26.SweepParts: what is needed never falls as more is allocated, and is never more than what is left.
-/
import Derived.Test.YtflfhjemblhafaaSweep
import Derived.Deep.QuietTactic
import Derived.BigQuiet
namespace Go.Proofs.Ytflfhjemblhafaa
open Go.RowKit

/-- A number as an unsigned one, modulo another. -/
theorem utmod (a m : Int) (hm : 0 < m) : ∃ x, (IntKind.u64.wrap a).tmod m = x ∧ 0 ≤ x ∧ x < m := by
  refine ⟨_, rfl, ?_, ?_⟩
  · rw [u64_wrap, Int.tmod_eq_emod_of_nonneg (by omega)]; exact Int.emod_nonneg _ (by omega)
  · rw [u64_wrap, Int.tmod_eq_emod_of_nonneg (by omega)]; exact Int.emod_lt_of_pos _ hm

/-- What the walk takes for granted. -/
structure PartsAt (n d v x y p q r : Int) : Prop where
  p : Sw.need n d (50 + x - 50) (50 + (1 + v) - 50) = p
  q : Sw.need n d (50 + y - 50) (50 + (1 + v) - 50) = q
  z : Sw.need n d (50 - 50) (50 + (1 + v) - 50) = 0
  a : Sw.need n 0 (50 + (1 + v) - 50) (50 + (1 + v) - 50) = n
  f : Sw.need n n (50 + y - 50) (50 + (1 + v) - 50) = 0
  e : Fx.div (Fx.whole n) (Fx.whole (50 + (1 + v) - 50)) = r
  e' : Fx.div (Fx.whole n) (Fx.whole (1 + v)) = r

set_option maxHeartbeats 4000000 in
theorem sweepParts_core (a1 a2 a3 a4 a5 n d v X Y x y p q r M1 M2 : Int) (w : World) (hn : (IntKind.u64.wrap a1).tmod 1048576 = n) (n0 : 0 ≤ n) (n1 : n ≤ 1048575)
    (hv : (IntKind.u64.wrap a3).tmod 1048576 = v) (v0 : 0 ≤ v) (v1 : v ≤ 1048575)
    (hd : (IntKind.u64.wrap a2).tmod (n + 1) = d) (d0 : 0 ≤ d) (d1 : d ≤ n)
    (hX : (IntKind.u64.wrap a4).tmod (1 + v + 1) = X) (X0 : 0 ≤ X) (X1 : X ≤ 1 + v) (hY : (IntKind.u64.wrap a5).tmod (1 + v + 1) = Y) (Y0 : 0 ≤ Y) (Y1 : Y ≤ 1 + v)
    (hxy : (X ≤ Y ∧ x = X ∧ y = Y) ∨ (Y < X ∧ x = Y ∧ y = X)) (H : Hid (PartsAt n d v x y p q r)) (p0 : 0 ≤ p) (pq : p ≤ q) (qn : q ≤ n - d)
    (hM1 : (d + q) * (1 + v) = M1) (hM2 : n * y = M2) (M20 : 0 ≤ M2) (M12 : M2 ≤ M1) (M13 : M1 ≤ 1099511627776) :
    Calls Try.prog 8 #[.int .i64 a1, .int .i64 a2, .int .i64 a3, .int .i64 a4, .int .i64 a5] w fun e w' => e = .returned (.bool true) ∧ Grown w w' := by
  rcases hxy with ⟨h, rfl, rfl⟩ | ⟨h, rfl, rfl⟩
  · go_enter Try.func8, Try.ntmps8
    go_wp2_with fail
    go_quiet (fail)
    go_wp2_with fail
    refine (need_at _ _ _ _ _ _ _ (by omega) (by omega) (by omega) (by omega) (by omega) (by omega) (by omega) (by omega) (by omega) H.out.p).mono ?_; rintro e w' ⟨rfl, rfl⟩
    go_wp2_with fail
    refine (need_at _ _ _ _ _ _ _ (by omega) (by omega) (by omega) (by omega) (by omega) (by omega) (by omega) (by omega) (by omega) H.out.q).mono ?_; rintro e w' ⟨rfl, rfl⟩
    go_wp2_with fail
    refine (told26_any _).mono ?_; rintro e w1 ⟨rfl, g1⟩
    go_wp2_with fail
    refine (need_at _ _ _ _ _ _ _ (by omega) (by omega) (by omega) (by omega) (by omega) (by omega) (by omega) (by omega) (by omega) H.out.z).mono ?_; rintro e w' ⟨rfl, rfl⟩
    go_wp2_with fail
    refine (need_at _ _ _ _ _ _ _ (by omega) (by omega) (by omega) (by omega) (by omega) (by omega) (by omega) (by omega) (by omega) H.out.a).mono ?_; rintro e w' ⟨rfl, rfl⟩
    go_wp2_with fail
    refine (need_at _ _ _ _ _ _ _ (by omega) (by omega) (by omega) (by omega) (by omega) (by omega) (by omega) (by omega) (by omega) H.out.f).mono ?_; rintro e w' ⟨rfl, rfl⟩
    go_wp2_with fail
    refine (even_at _ _ _ _ _ (by omega) (by omega) (by omega) (by omega) (by omega) H.out.e).mono ?_; rintro e w2 ⟨rfl, g2⟩
    go_wp2_with fail
    refine (whole_any _ _ (by omega) (by omega)).mono ?_; rintro e w' ⟨rfl, rfl⟩
    go_wp2_with fail
    refine (whole_any _ _ (by omega) (by omega)).mono ?_; rintro e w' ⟨rfl, rfl⟩
    go_wp2_with fail
    refine (div_grown _ _ _ _ (in_sat _) (in_sat _) H.out.e').mono ?_; rintro e w3 ⟨rfl, g3⟩
    go_wp2_with fail
    go_ret
    exact ⟨rfl, grown_trans g1 (grown_trans g2 g3)⟩
  · go_enter Try.func8, Try.ntmps8
    go_wp2_with fail
    go_quiet (fail)
    go_wp2_with fail
    refine (need_at _ _ _ _ _ _ _ (by omega) (by omega) (by omega) (by omega) (by omega) (by omega) (by omega) (by omega) (by omega) H.out.p).mono ?_; rintro e w' ⟨rfl, rfl⟩
    go_wp2_with fail
    refine (need_at _ _ _ _ _ _ _ (by omega) (by omega) (by omega) (by omega) (by omega) (by omega) (by omega) (by omega) (by omega) H.out.q).mono ?_; rintro e w' ⟨rfl, rfl⟩
    go_wp2_with fail
    refine (told26_any _).mono ?_; rintro e w1 ⟨rfl, g1⟩
    go_wp2_with fail
    refine (need_at _ _ _ _ _ _ _ (by omega) (by omega) (by omega) (by omega) (by omega) (by omega) (by omega) (by omega) (by omega) H.out.z).mono ?_; rintro e w' ⟨rfl, rfl⟩
    go_wp2_with fail
    refine (need_at _ _ _ _ _ _ _ (by omega) (by omega) (by omega) (by omega) (by omega) (by omega) (by omega) (by omega) (by omega) H.out.a).mono ?_; rintro e w' ⟨rfl, rfl⟩
    go_wp2_with fail
    refine (need_at _ _ _ _ _ _ _ (by omega) (by omega) (by omega) (by omega) (by omega) (by omega) (by omega) (by omega) (by omega) H.out.f).mono ?_; rintro e w' ⟨rfl, rfl⟩
    go_wp2_with fail
    refine (even_at _ _ _ _ _ (by omega) (by omega) (by omega) (by omega) (by omega) H.out.e).mono ?_; rintro e w2 ⟨rfl, g2⟩
    go_wp2_with fail
    refine (whole_any _ _ (by omega) (by omega)).mono ?_; rintro e w' ⟨rfl, rfl⟩
    go_wp2_with fail
    refine (whole_any _ _ (by omega) (by omega)).mono ?_; rintro e w' ⟨rfl, rfl⟩
    go_wp2_with fail
    refine (div_grown _ _ _ _ (in_sat _) (in_sat _) H.out.e').mono ?_; rintro e w3 ⟨rfl, g3⟩
    go_wp2_with fail
    go_ret
    exact ⟨rfl, grown_trans g1 (grown_trans g2 g3)⟩

theorem sweepParts_walk (a1 a2 a3 a4 a5 : Int) (w : World) (_b1 : -9223372036854775808 ≤ a1) (_b2 : a1 ≤ 9223372036854775807) (_b3 : -9223372036854775808 ≤ a2) (_b4 : a2 ≤ 9223372036854775807) (_b5 : -9223372036854775808 ≤ a3) (_b6 : a3 ≤ 9223372036854775807) (_b7 : -9223372036854775808 ≤ a4) (_b8 : a4 ≤ 9223372036854775807) (_b9 : -9223372036854775808 ≤ a5) (_b10 : a5 ≤ 9223372036854775807) :
    Calls Try.prog 8 #[.int .i64 a1, .int .i64 a2, .int .i64 a3, .int .i64 a4, .int .i64 a5] w fun e w' => e = .returned (.bool true) ∧ Grown w w' := by
  obtain ⟨n, hn, n0, n1⟩ := utmod a1 1048576 (by omega)
  obtain ⟨v, hv, v0, v1⟩ := utmod a3 1048576 (by omega)
  obtain ⟨d, hd, d0, d1⟩ := utmod a2 (n + 1) (by omega)
  obtain ⟨X, hX, X0, X1⟩ := utmod a4 (1 + v + 1) (by omega)
  obtain ⟨Y, hY, Y0, Y1⟩ := utmod a5 (1 + v + 1) (by omega)
  obtain ⟨x, y, hxy, hle, x0, y1⟩ : ∃ x y, ((X ≤ Y ∧ x = X ∧ y = Y) ∨ (Y < X ∧ x = Y ∧ y = X)) ∧ x ≤ y ∧ 0 ≤ x ∧ y ≤ 1 + v := by
    rcases Int.lt_or_le Y X with h | h
    · exact ⟨Y, X, Or.inr ⟨h, rfl, rfl⟩, by omega, by omega, by omega⟩
    · exact ⟨X, Y, Or.inl ⟨h, rfl, rfl⟩, by omega, by omega, by omega⟩
  have m0 : 0 ≤ n * x := Int.mul_nonneg n0 x0
  have m1 : n * x ≤ n * y := Int.mul_le_mul_of_nonneg_left hle n0
  have m2 : n * y ≤ n * (1 + v) := Int.mul_le_mul_of_nonneg_left y1 n0
  have u1 := Sw.up_mono (c := 1 + v) (by omega) m0 m1
  have u2 := Sw.up_le (c := n) (show 0 < 1 + v by omega) (by omega) m2
  have r1 := Sw.up_range m0 (show 0 < 1 + v by omega)
  have r2 := Sw.up_range (show 0 ≤ n * y by omega) (show 0 < 1 + v by omega)
  have un := Sw.up_mul (n := n) (y := 1 + v) (by omega) n0
  obtain ⟨U, hU⟩ : ∃ U, Sw.up (n * x) (1 + v) = U := ⟨_, rfl⟩
  obtain ⟨V, hV⟩ : ∃ V, Sw.up (n * y) (1 + v) = V := ⟨_, rfl⟩
  rw [hU, hV] at u1
  rw [hV] at u2 r2
  rw [hU] at r1
  have e1 : 50 + x - 50 = x := by omega
  have e2 : 50 + y - 50 = y := by omega
  have e3 : 50 + (1 + v) - 50 = 1 + v := by omega
  have ez : (50 : Int) - 50 = 0 := by omega
  have hp : Sw.cut n d U = if U < d then 0 else U - d := by
    unfold Sw.cut
    by_cases h : U < d
    · rw [if_pos h, if_pos h]
    · rw [if_neg h, if_neg h, if_neg (by omega)]
  have hq : Sw.cut n d V = if V < d then 0 else V - d := by
    unfold Sw.cut
    by_cases h : V < d
    · rw [if_pos h, if_pos h]
    · rw [if_neg h, if_neg h, if_neg (by omega)]
  have H : PartsAt n d v x y (Sw.cut n d U) (Sw.cut n d V) (Fx.div (Fx.whole n) (Fx.whole (1 + v))) := {
    p := by rw [e1, e3]; unfold Sw.need; rw [hU]
    q := by rw [e2, e3]; unfold Sw.need; rw [hV]
    z := by
      rw [ez, e3]; unfold Sw.need; rw [Int.mul_zero, Sw.up_zero]; unfold Sw.cut
      by_cases h : 0 < d
      · rw [if_pos h]
      · rw [if_neg h, if_neg (by omega)]; omega
    a := by rw [e3]; unfold Sw.need; rw [un]; unfold Sw.cut; rw [if_neg (by omega), if_neg (by omega)]; omega
    f := by
      rw [e2, e3]; unfold Sw.need; rw [hV]; unfold Sw.cut
      by_cases h : V < n
      · rw [if_pos h]
      · rw [if_neg h, if_neg (by omega)]; omega
    e := by rw [e3]
    e' := rfl }
  have p0 : 0 ≤ Sw.cut n d U := by rw [hp]; split <;> omega
  have pq : Sw.cut n d U ≤ Sw.cut n d V := by rw [hp, hq]; split <;> split <;> omega
  have qn : Sw.cut n d V ≤ n - d := by rw [hq]; split <;> omega
  have qV : V ≤ d + Sw.cut n d V := by rw [hq]; split <;> omega
  generalize Sw.cut n d V = q at *
  have M12 : V * (1 + v) ≤ (d + q) * (1 + v) := Int.mul_le_mul_of_nonneg_right qV (by omega)
  have M13 : (d + q) * (1 + v) ≤ 1048576 * 1048576 := Int.mul_le_mul (by omega) (by omega) (by omega) (by omega)
  exact sweepParts_core a1 a2 a3 a4 a5 n d v X Y x y _ q _ _ _ w hn n0 (by omega) hv v0 (by omega) hd d0 (by omega) hX X0 (by omega) hY Y0 (by omega) hxy H p0 pq qn rfl rfl (by omega) (by omega) (by omega)

end Go.Proofs.Ytflfhjemblhafaa
