/-
  THE WALK of the statements' own told (layer 1), and the contracts of package fix at a known answer.
-/
import Derived.Test.YtlbefohabphjlaaFloat
import Derived.RowKit3
namespace Go.Proofs.Ytlbefohabphjlaa
open Go.RowKit

theorem grown_trans {a b c : World} (h1 : Grown a b) (h2 : Grown b c) : Grown a c :=
  ⟨World.keptBut_trans h1.1 h2.1, fun x => (h2.2.1 x).trans (h1.2.1 x), Nat.le_trans h1.2.2 h2.2.2⟩
theorem grown_drewN {a b : World} (h : Grown a b) (n : Nat) : Grown a (b.drewN n) := h

/-- What an int64 holds. -/
def In (a : Int) : Prop := -9223372036854775808 ≤ a ∧ a ≤ 9223372036854775807

theorem in_mk {a : Int} (h1 : -9223372036854775808 ≤ a) (h2 : a ≤ 9223372036854775807) : In a := ⟨h1, h2⟩
theorem in_sat (x : Int) : In (Fx.sat x) := Fx.sat_range x

theorem add_at (a b r : Int) (w : World) (ha : In a) (hb : In b) (h : Fx.add a b = r) : Calls Try.prog 16 #[.int .i64 a, .int .i64 b] w fun e w' => e = .returned (.int .i64 r) ∧ w = w' := by
  have := add_any a b w ha.1 ha.2 hb.1 hb.2
  rw [h] at this; exact this
theorem sub_at (a b r : Int) (w : World) (ha : In a) (hb : In b) (h : Fx.sub a b = r) : Calls Try.prog 17 #[.int .i64 a, .int .i64 b] w fun e w' => e = .returned (.int .i64 r) ∧ w = w' := by
  have := sub_any a b w ha.1 ha.2 hb.1 hb.2
  rw [h] at this; exact this
theorem mul_at (a b r : Int) (w : World) (ha : In a) (hb : In b) (h : Fx.mul a b = r) : Calls Try.prog 20 #[.int .i64 a, .int .i64 b] w fun e w' => e = .returned (.int .i64 r) ∧ w = w' := by
  have := mul_any a b w ha.1 ha.2 hb.1 hb.2
  rw [h] at this; exact this
theorem whole_at (a r : Int) (w : World) (ha : In a) (h : Fx.whole a = r) : Calls Try.prog 18 #[.int .i64 a] w fun e w' => e = .returned (.int .i64 r) ∧ w = w' := by
  have := whole_any a w ha.1 ha.2
  rw [h] at this; exact this
theorem int_at (a r : Int) (w : World) (h : Fx.int a = r) : Calls Try.prog 19 #[.int .i64 a] w fun e w' => e = .returned (.int .i64 r) ∧ w = w' := by
  have := int_any a w
  rw [h] at this; exact this
theorem div_at (a b r : Int) (w : World) (ha : In a) (hb : In b) (h : Fx.div a b = r) : Calls Try.prog 21 #[.int .i64 a, .int .i64 b] w fun e w' => e = .returned (.int .i64 r) ∧ Grown w w' := by
  have := div_any a b w ha.1 ha.2 hb.1 hb.2
  rw [h] at this
  exact this.mono fun e w' ⟨he, n, hw⟩ => ⟨he, by rw [hw]; exact Grown.refl w⟩
theorem float_at (x : Nat) (r : Int) (w : World) (h : Flt.flt x = r) : Calls Try.prog 25 #[.float .f64 x] w fun e w' => e = .returned (.int .i64 r) ∧ w = w' := by
  have := float_any x w
  rw [h] at this; exact this
theorem real_call {n : Int} (h : n.natAbs < 9007199254740992) (w : World) : Calls Try.prog 27 #[.int .i64 n] w fun e w' => e = .returned (.float .f64 (Flt.real n)) ∧ w = w' := by
  obtain ⟨t, hd, -⟩ := Flt.real_num h
  exact real_any w hd

theorem flt_half : Flt.flt 13826050856027422720 = -524288 := by decide +kernel
theorem real_one : (FloatKind.f64.format.order (Flt.real 1048576) 4607182418800017408 == some .eq) = true := by decide +kernel

set_option maxHeartbeats 1000000 in
theorem told_any (w : World) : Calls Try.prog 22 #[] w fun e w' => e = .returned (.bool true) ∧ Grown w w' := by
  have hr := real_one
  go_enter Try.func22, Try.ntmps22
  go_wp2_with fail
  refine (mul_at _ _ 786432 _ (in_mk (by omega) (by omega)) (in_mk (by omega) (by omega)) (by decide)).mono ?_; rintro e w' ⟨rfl, rfl⟩
  go_wp2_with fail
  refine (float_at _ _ _ flt_half).mono ?_; rintro e w' ⟨rfl, rfl⟩
  go_wp2_with fail
  refine (add_at _ _ 9223372036854775807 _ (in_mk (by omega) (by omega)) (in_mk (by omega) (by omega)) (by decide)).mono ?_; rintro e w' ⟨rfl, rfl⟩
  go_wp2_with fail
  refine (div_at _ _ (-9223372036854775808) _ (in_mk (by omega) (by omega)) (in_mk (by omega) (by omega)) (by decide)).mono ?_; rintro e w1 ⟨rfl, g1⟩
  go_wp2_with fail
  refine (whole_at _ 2097152 _ (in_mk (by omega) (by omega)) (by decide)).mono ?_; rintro e w' ⟨rfl, rfl⟩
  go_wp2_with fail
  refine (int_at _ (-1) _ (by decide)).mono ?_; rintro e w' ⟨rfl, rfl⟩
  go_wp2_with fail
  refine (real_call (by decide) _).mono ?_; rintro e w' ⟨rfl, rfl⟩
  go_wp2_with fail
  go_ret
  exact ⟨rfl, g1⟩

end Go.Proofs.Ytlbefohabphjlaa
