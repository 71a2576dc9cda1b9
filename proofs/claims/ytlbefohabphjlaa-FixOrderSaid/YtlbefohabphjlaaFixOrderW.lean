/-
  THE WALK of treadmilllaw1.FixOrder: greater numbers have sums, differences, products and quotients that are no lesser.
-/
import Derived.Test.YtlbefohabphjlaaTold1
import Derived.Test.YtlbefohabphjlaaFixLaws
namespace Go.Proofs.Ytlbefohabphjlaa
open Go.RowKit

theorem div_grown (a b : Int) (w : World) (ha : In a) (hb : In b) : Calls Try.prog 21 #[.int .i64 a, .int .i64 b] w fun e w' => e = .returned (.int .i64 (Fx.div a b)) ∧ Grown w w' := div_at a b _ w ha hb rfl
theorem add_in (a b : Int) (w : World) (ha : In a) (hb : In b) : Calls Try.prog 16 #[.int .i64 a, .int .i64 b] w fun e w' => e = .returned (.int .i64 (Fx.add a b)) ∧ w = w' := add_at a b _ w ha hb rfl
theorem sub_in (a b : Int) (w : World) (ha : In a) (hb : In b) : Calls Try.prog 17 #[.int .i64 a, .int .i64 b] w fun e w' => e = .returned (.int .i64 (Fx.sub a b)) ∧ w = w' := sub_at a b _ w ha hb rfl
theorem mul_in (a b : Int) (w : World) (ha : In a) (hb : In b) : Calls Try.prog 20 #[.int .i64 a, .int .i64 b] w fun e w' => e = .returned (.int .i64 (Fx.mul a b)) ∧ w = w' := mul_at a b _ w ha hb rfl
theorem whole_in (a : Int) (w : World) (ha : In a) : Calls Try.prog 18 #[.int .i64 a] w fun e w' => e = .returned (.int .i64 (Fx.whole a)) ∧ w = w' := whole_at a _ w ha rfl

set_option maxHeartbeats 4000000 in
theorem fixOrder_core (a b c x y : Int) (w : World) (ia : In a) (ib : In b) (ic : In c) (ix : In x) (iy : In y)
    (hmin : ∀ w, (Builtin.min_ #[2, 2] 2 #[.int .i64 a, .int .i64 b]).run Try.prog w = .ok (.int .i64 x) w)
    (hmax : ∀ w, (Builtin.max_ #[2, 2] 2 #[.int .i64 a, .int .i64 b]).run Try.prog w = .ok (.int .i64 y) w)
    (k1 : Fx.add x c ≤ Fx.add y c) (k2 : Fx.sub x c ≤ Fx.sub y c) (k3 : Fx.sub c y ≤ Fx.sub c x) (k4 : Fx.whole x ≤ Fx.whole y) (k5 : Fx.int x ≤ Fx.int y)
    (hc : (0 < c ∧ Fx.mul x c ≤ Fx.mul y c ∧ Fx.div x c ≤ Fx.div y c) ∨ (c < 0 ∧ Fx.mul y c ≤ Fx.mul x c ∧ Fx.div y c ≤ Fx.div x c) ∨ c = 0)
    (e1 : Hid (Fx.mul b a = Fx.mul a b)) (e2 : Hid (Fx.add b a = Fx.add a b)) (e3 : Hid (Fx.mul a 1048576 = a)) (e4 : Hid (Fx.div a 1048576 = a)) :
    Calls Try.prog 3 #[.int .i64 a, .int .i64 b, .int .i64 c] w fun e w' => e = .returned (.bool true) ∧ Grown w w' := by
  rcases hc with ⟨h1, h2, h3⟩ | ⟨h1, h2, h3⟩ | h1
  · go_enter Try.func3, Try.ntmps3
    go_wp2_with fail
    refine (add_in _ _ _ ix ic).mono ?_; rintro e w' ⟨rfl, rfl⟩
    go_wp2_with fail
    refine (add_in _ _ _ iy ic).mono ?_; rintro e w' ⟨rfl, rfl⟩
    go_wp2_with fail
    refine (sub_in _ _ _ ix ic).mono ?_; rintro e w' ⟨rfl, rfl⟩
    go_wp2_with fail
    refine (sub_in _ _ _ iy ic).mono ?_; rintro e w' ⟨rfl, rfl⟩
    go_wp2_with fail
    refine (sub_in _ _ _ ic ix).mono ?_; rintro e w' ⟨rfl, rfl⟩
    go_wp2_with fail
    refine (sub_in _ _ _ ic iy).mono ?_; rintro e w' ⟨rfl, rfl⟩
    go_wp2_with fail
    refine (whole_in _ _ ix).mono ?_; rintro e w' ⟨rfl, rfl⟩
    go_wp2_with fail
    refine (whole_in _ _ iy).mono ?_; rintro e w' ⟨rfl, rfl⟩
    go_wp2_with fail
    refine (int_any _ _).mono ?_; rintro e w' ⟨rfl, rfl⟩
    go_wp2_with fail
    refine (int_any _ _).mono ?_; rintro e w' ⟨rfl, rfl⟩
    go_wp2_with fail
    refine (mul_in _ _ _ ix ic).mono ?_; rintro e w' ⟨rfl, rfl⟩
    go_wp2_with fail
    refine (mul_in _ _ _ iy ic).mono ?_; rintro e w' ⟨rfl, rfl⟩
    go_wp2_with fail
    refine (div_grown _ _ _ ix ic).mono ?_; rintro e w1 ⟨rfl, g1⟩
    go_wp2_with fail
    refine (div_grown _ _ _ iy ic).mono ?_; rintro e w2 ⟨rfl, g2⟩
    go_wp2_with fail
    refine (told_any _).mono ?_; rintro e w3 ⟨rfl, g3⟩
    go_wp2_with fail
    refine (mul_in _ _ _ ia ib).mono ?_; rintro e w' ⟨rfl, rfl⟩
    go_wp2_with fail
    refine (mul_at _ _ _ _ ib ia e1.out).mono ?_; rintro e w' ⟨rfl, rfl⟩
    go_wp2_with fail
    refine (add_in _ _ _ ia ib).mono ?_; rintro e w' ⟨rfl, rfl⟩
    go_wp2_with fail
    refine (add_at _ _ _ _ ib ia e2.out).mono ?_; rintro e w' ⟨rfl, rfl⟩
    go_wp2_with fail
    refine (mul_at _ _ _ _ ia (in_mk (by omega) (by omega)) e3.out).mono ?_; rintro e w' ⟨rfl, rfl⟩
    go_wp2_with fail
    refine (div_at _ _ _ _ ia (in_mk (by omega) (by omega)) e4.out).mono ?_; rintro e w4 ⟨rfl, g4⟩
    go_wp2_with fail
    go_ret
    exact ⟨rfl, grown_trans g1 (grown_trans g2 (grown_trans g3 g4))⟩
  · go_enter Try.func3, Try.ntmps3
    go_wp2_with fail
    refine (add_in _ _ _ ix ic).mono ?_; rintro e w' ⟨rfl, rfl⟩
    go_wp2_with fail
    refine (add_in _ _ _ iy ic).mono ?_; rintro e w' ⟨rfl, rfl⟩
    go_wp2_with fail
    refine (sub_in _ _ _ ix ic).mono ?_; rintro e w' ⟨rfl, rfl⟩
    go_wp2_with fail
    refine (sub_in _ _ _ iy ic).mono ?_; rintro e w' ⟨rfl, rfl⟩
    go_wp2_with fail
    refine (sub_in _ _ _ ic ix).mono ?_; rintro e w' ⟨rfl, rfl⟩
    go_wp2_with fail
    refine (sub_in _ _ _ ic iy).mono ?_; rintro e w' ⟨rfl, rfl⟩
    go_wp2_with fail
    refine (whole_in _ _ ix).mono ?_; rintro e w' ⟨rfl, rfl⟩
    go_wp2_with fail
    refine (whole_in _ _ iy).mono ?_; rintro e w' ⟨rfl, rfl⟩
    go_wp2_with fail
    refine (int_any _ _).mono ?_; rintro e w' ⟨rfl, rfl⟩
    go_wp2_with fail
    refine (int_any _ _).mono ?_; rintro e w' ⟨rfl, rfl⟩
    go_wp2_with fail
    refine (mul_in _ _ _ ix ic).mono ?_; rintro e w' ⟨rfl, rfl⟩
    go_wp2_with fail
    refine (mul_in _ _ _ iy ic).mono ?_; rintro e w' ⟨rfl, rfl⟩
    go_wp2_with fail
    refine (div_grown _ _ _ ix ic).mono ?_; rintro e w1 ⟨rfl, g1⟩
    go_wp2_with fail
    refine (div_grown _ _ _ iy ic).mono ?_; rintro e w2 ⟨rfl, g2⟩
    go_wp2_with fail
    refine (told_any _).mono ?_; rintro e w3 ⟨rfl, g3⟩
    go_wp2_with fail
    refine (mul_in _ _ _ ia ib).mono ?_; rintro e w' ⟨rfl, rfl⟩
    go_wp2_with fail
    refine (mul_at _ _ _ _ ib ia e1.out).mono ?_; rintro e w' ⟨rfl, rfl⟩
    go_wp2_with fail
    refine (add_in _ _ _ ia ib).mono ?_; rintro e w' ⟨rfl, rfl⟩
    go_wp2_with fail
    refine (add_at _ _ _ _ ib ia e2.out).mono ?_; rintro e w' ⟨rfl, rfl⟩
    go_wp2_with fail
    refine (mul_at _ _ _ _ ia (in_mk (by omega) (by omega)) e3.out).mono ?_; rintro e w' ⟨rfl, rfl⟩
    go_wp2_with fail
    refine (div_at _ _ _ _ ia (in_mk (by omega) (by omega)) e4.out).mono ?_; rintro e w4 ⟨rfl, g4⟩
    go_wp2_with fail
    go_ret
    exact ⟨rfl, grown_trans g1 (grown_trans g2 (grown_trans g3 g4))⟩
  · subst h1
    go_enter Try.func3, Try.ntmps3
    go_wp2_with fail
    refine (add_in _ _ _ ix ic).mono ?_; rintro e w' ⟨rfl, rfl⟩
    go_wp2_with fail
    refine (add_in _ _ _ iy ic).mono ?_; rintro e w' ⟨rfl, rfl⟩
    go_wp2_with fail
    refine (sub_in _ _ _ ix ic).mono ?_; rintro e w' ⟨rfl, rfl⟩
    go_wp2_with fail
    refine (sub_in _ _ _ iy ic).mono ?_; rintro e w' ⟨rfl, rfl⟩
    go_wp2_with fail
    refine (sub_in _ _ _ ic ix).mono ?_; rintro e w' ⟨rfl, rfl⟩
    go_wp2_with fail
    refine (sub_in _ _ _ ic iy).mono ?_; rintro e w' ⟨rfl, rfl⟩
    go_wp2_with fail
    refine (whole_in _ _ ix).mono ?_; rintro e w' ⟨rfl, rfl⟩
    go_wp2_with fail
    refine (whole_in _ _ iy).mono ?_; rintro e w' ⟨rfl, rfl⟩
    go_wp2_with fail
    refine (int_any _ _).mono ?_; rintro e w' ⟨rfl, rfl⟩
    go_wp2_with fail
    refine (int_any _ _).mono ?_; rintro e w' ⟨rfl, rfl⟩
    go_wp2_with fail
    refine (told_any _).mono ?_; rintro e w3 ⟨rfl, g3⟩
    go_wp2_with fail
    refine (mul_in _ _ _ ia ib).mono ?_; rintro e w' ⟨rfl, rfl⟩
    go_wp2_with fail
    refine (mul_at _ _ _ _ ib ia e1.out).mono ?_; rintro e w' ⟨rfl, rfl⟩
    go_wp2_with fail
    refine (add_in _ _ _ ia ib).mono ?_; rintro e w' ⟨rfl, rfl⟩
    go_wp2_with fail
    refine (add_at _ _ _ _ ib ia e2.out).mono ?_; rintro e w' ⟨rfl, rfl⟩
    go_wp2_with fail
    refine (mul_at _ _ _ _ ia (in_mk (by omega) (by omega)) e3.out).mono ?_; rintro e w' ⟨rfl, rfl⟩
    go_wp2_with fail
    refine (div_at _ _ _ _ ia (in_mk (by omega) (by omega)) e4.out).mono ?_; rintro e w4 ⟨rfl, g4⟩
    go_wp2_with fail
    go_ret
    exact ⟨rfl, grown_trans g3 g4⟩

theorem fixOrder_walk (a b c : Int) (w : World) (a1 : -9223372036854775808 ≤ a) (a2 : a ≤ 9223372036854775807) (b1 : -9223372036854775808 ≤ b) (b2 : b ≤ 9223372036854775807) (c1 : -9223372036854775808 ≤ c) (c2 : c ≤ 9223372036854775807) :
    Calls Try.prog 3 #[.int .i64 a, .int .i64 b, .int .i64 c] w fun e w' => e = .returned (.bool true) ∧ Grown w w' := by
  obtain ⟨x, hx⟩ : ∃ x, (if b < a then b else a) = x := ⟨_, rfl⟩
  obtain ⟨y, hy⟩ : ∃ y, (if b > a then b else a) = y := ⟨_, rfl⟩
  have hxy : x ≤ y := by rw [← hx, ← hy]; split <;> split <;> omega
  have x1 : -9223372036854775808 ≤ x ∧ x ≤ 9223372036854775807 := by rw [← hx]; split <;> omega
  have y1 : -9223372036854775808 ≤ y ∧ y ≤ 9223372036854775807 := by rw [← hy]; split <;> omega
  refine fixOrder_core a b c x y w ⟨a1, a2⟩ ⟨b1, b2⟩ ⟨c1, c2⟩ x1 y1 (fun w => by rw [run_min_int2, hx]) (fun w => by rw [run_max_int2, hy])
    (Fx.add_mono c hxy) (Fx.sub_mono c hxy) (Fx.sub_anti c hxy) (Fx.whole_mono hxy) (Fx.int_mono hxy) ?_ (Fx.mul_comm' a b) (Fx.add_comm' a b) (Fx.mul_unit a1 a2) (Fx.div_unit a1 a2)
  rcases Int.lt_trichotomy c 0 with h | h | h
  · exact Or.inr (Or.inl ⟨h, Fx.mul_anti (by omega) hxy, Fx.div_anti h hxy⟩)
  · exact Or.inr (Or.inr h)
  · exact Or.inl ⟨h, Fx.mul_mono (by omega) hxy, Fx.div_mono h hxy⟩

end Go.Proofs.Ytlbefohabphjlaa
