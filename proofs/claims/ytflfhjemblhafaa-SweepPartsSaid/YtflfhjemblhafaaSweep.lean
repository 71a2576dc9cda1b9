/-
  THE WALKS of package sweep (layer 26), at numbers within their bounds.
-/
import Derived.Test.YtflfhjemblhafaaShare
namespace Go.Proofs.Ytflfhjemblhafaa
open Go.RowKit

namespace Sw
/-- A quotient, rounded up. -/
def up (a b : Int) : Int := if a % b = 0 then a / b else a / b + 1
/-- How many spans are to be swept at once, of n, d of which are swept, x words of a way of y behind one. -/
def cut (n d u : Int) : Int := if u < d then 0 else if n < u then n - d else u - d
def need (n d x y : Int) : Int := cut n d (up (n * x) y)

theorem up_range {a b : Int} (ha : 0 ≤ a) (hb : 0 < b) : a ≤ up a b * b ∧ up a b * b < a + b ∧ 0 ≤ up a b ∧ up a b ≤ a := by
  have e := Int.mul_ediv_add_emod a b
  have e1 := Int.emod_nonneg a (show b ≠ 0 by omega)
  have e2 := Int.emod_lt_of_pos a hb
  have e3 : 0 ≤ a / b := Int.ediv_nonneg ha (by omega)
  have e4 : a / b ≤ a := Int.ediv_le_self b ha
  rw [Int.mul_comm] at e
  unfold up
  by_cases h : a % b = 0
  · rw [if_pos h]; refine ⟨by omega, by omega, e3, e4⟩
  · rw [if_neg h]
    have e5 : (a / b + 1) * b = a / b * b + b := by rw [Int.add_mul, Int.one_mul]
    refine ⟨by omega, by omega, by omega, ?_⟩
    have e6 : a / b * 1 ≤ a / b * b := Int.mul_le_mul_of_nonneg_left (by omega) e3
    omega
theorem le_up {a b c : Int} (hb : 0 < b) (ha : 0 ≤ a) (h : c * b < a + b) : c ≤ up a b := by
  have r := up_range ha hb
  rcases Int.lt_or_le (up a b) c with h1 | h1
  · exfalso
    have := Int.mul_le_mul_of_nonneg_right (show up a b + 1 ≤ c by omega) (show 0 ≤ b by omega)
    rw [Int.add_mul, Int.one_mul] at this
    omega
  · exact h1
theorem up_le {a b c : Int} (hb : 0 < b) (ha : 0 ≤ a) (h : a ≤ c * b) : up a b ≤ c := by
  have r := up_range ha hb
  rcases Int.lt_or_le c (up a b) with h1 | h1
  · exfalso
    have := Int.mul_le_mul_of_nonneg_right (show c + 1 ≤ up a b by omega) (show 0 ≤ b by omega)
    rw [Int.add_mul, Int.one_mul] at this
    omega
  · exact h1
theorem up_mono {a b c : Int} (hc : 0 < c) (ha : 0 ≤ a) (h : a ≤ b) : up a c ≤ up b c :=
  up_le hc ha (Int.le_trans h (up_range (by omega) hc).1)
theorem up_mul {n y : Int} (hy : 0 < y) (hn : 0 ≤ n) : up (n * y) y = n := by
  have h0 : 0 ≤ n * y := Int.mul_nonneg hn (by omega)
  exact Int.le_antisymm (up_le hy h0 (Int.le_refl _)) (le_up hy h0 (by omega))
theorem up_zero {y : Int} : up 0 y = 0 := by
  unfold up; rw [Int.zero_emod, if_pos rfl, Int.zero_ediv]
end Sw

set_option maxHeartbeats 1000000 in
theorem few26_any (n : Int) (w : World) : Calls Try.prog 48 #[.int .i64 n] w fun e w' => e = .returned (.int .i64 (cl 0 2147483648 n)) ∧ w = w' := by
  rcases (by omega : n < 0 ∨ (0 ≤ n ∧ 2147483648 < n) ∨ (0 ≤ n ∧ n ≤ 2147483648)) with h | ⟨h, h'⟩ | ⟨h, h'⟩
  all_goals
    go_enter Try.func48, Try.ntmps48
    go_wp2_with fail
    go_ret
    exact ⟨ret_int (by unfold cl; repeat' split <;> omega), rfl⟩

theorem few26_in (n : Int) (w : World) (h : 0 ≤ n) (h' : n ≤ 2147483648) : Calls Try.prog 48 #[.int .i64 n] w fun e w' => e = .returned (.int .i64 n) ∧ w = w' := by
  have := few26_any n w
  rw [cl_in h h'] at this
  exact this

set_option maxHeartbeats 1000000 in
theorem up_any (a b : Int) (w : World) (ha : 0 ≤ a) (ha' : a ≤ 4611686018427387904) (hb : 0 < b) (hb' : b ≤ 2147483648) :
    Calls Try.prog 49 #[.int .i64 a, .int .i64 b] w fun e w' => e = .returned (.int .i64 (Sw.up a b)) ∧ w = w' := by
  have e1 := Int.emod_nonneg a (show b ≠ 0 by omega)
  have e3 : 0 ≤ a / b := Int.ediv_nonneg ha (by omega)
  have e4 : a / b ≤ a := Int.ediv_le_self b ha
  by_cases h : a % b = 0
  · have e : Sw.up a b = a / b := by unfold Sw.up; rw [if_pos h]
    have h0 : ¬ (0 < a % b) := by omega
    rw [e]
    clear e h
    go_enter Try.func49, Try.ntmps49
    go_wp2_with fail
    go_ret
    exact ⟨rfl, rfl⟩
  · have e : Sw.up a b = a / b + 1 := by unfold Sw.up; rw [if_neg h]
    have h0 : 0 < a % b := by omega
    rw [e]
    clear e h
    go_enter Try.func49, Try.ntmps49
    go_wp2_with fail
    go_ret
    exact ⟨rfl, rfl⟩

set_option maxHeartbeats 2000000 in
theorem need_core (n d b t g P u : Int) (w : World) (n0 : 0 ≤ n) (n1 : n ≤ 2147483648) (d0 : 0 ≤ d) (d1 : d ≤ n) (b0 : 0 ≤ b) (bt : b ≤ t) (t1 : t ≤ 2147483648) (bg : b < g) (g1 : g ≤ 2147483648)
    (hP : wrap64 (n * max (t - b) 0) = P) (P0 : 0 ≤ P) (P1 : P ≤ 4611686018427387904) (hu : Hid (Sw.up P (g - b) = u)) (u0 : 0 ≤ u) (u1 : u ≤ 4611686018427387904) :
    Calls Try.prog 22 #[.int .i64 n, .int .i64 d, .int .i64 b, .int .i64 t, .int .i64 g] w fun e w' => e = .returned (.int .i64 (Sw.cut n d u)) ∧ w = w' := by
  have hup : ∀ w, Calls Try.prog 49 #[.int .i64 P, .int .i64 (g - b)] w fun e w' => e = .returned (.int .i64 u) ∧ w = w' := fun w => by
    have := up_any P (g - b) w P0 P1 (by omega) (by omega)
    rw [hu.out] at this
    exact this
  have HU := Lib.hid hup
  clear hup
  go_enter Try.func22, Try.ntmps22
  go_wp2_with fail
  refine (few26_in _ _ (by omega) (by omega)).mono ?_; rintro e w' ⟨rfl, rfl⟩
  go_wp2_with fail
  refine (few26_in _ _ (by omega) (by omega)).mono ?_; rintro e w' ⟨rfl, rfl⟩
  go_wp2_with fail
  refine (few26_in _ _ (by omega) (by omega)).mono ?_; rintro e w' ⟨rfl, rfl⟩
  go_wp2_with fail
  refine (few26_in _ _ (by omega) (by omega)).mono ?_; rintro e w' ⟨rfl, rfl⟩
  go_wp2_with fail
  refine (few26_in _ _ (by omega) (by omega)).mono ?_; rintro e w' ⟨rfl, rfl⟩
  go_wp2_with fail
  refine (HU.out _).mono ?_; rintro e w' ⟨rfl, rfl⟩
  go_wp2_with fail
  go_ret
  exact ⟨ret_int (by unfold Sw.cut; repeat' split <;> omega), rfl⟩

theorem need_at (n d b t g r : Int) (w : World) (n0 : 0 ≤ n) (n1 : n ≤ 2147483648) (d0 : 0 ≤ d) (d1 : d ≤ n) (b0 : 0 ≤ b) (bt : b ≤ t) (t1 : t ≤ 2147483648) (bg : b < g) (g1 : g ≤ 2147483648) (h : Sw.need n d (t - b) (g - b) = r) :
    Calls Try.prog 22 #[.int .i64 n, .int .i64 d, .int .i64 b, .int .i64 t, .int .i64 g] w fun e w' => e = .returned (.int .i64 r) ∧ w = w' := by
  have P0 : 0 ≤ n * (t - b) := Int.mul_nonneg n0 (by omega)
  have P1 : n * (t - b) ≤ 2147483648 * 2147483648 := Int.mul_le_mul n1 (by omega) (by omega) (by omega)
  have hr := Sw.up_range P0 (show 0 < g - b by omega)
  have hP : wrap64 (n * max (t - b) 0) = n * (t - b) := by
    rw [Int.max_eq_left (by omega)]
    unfold wrap64
    generalize n * (t - b) = P at *
    omega
  have := need_core n d b t g (n * (t - b)) (Sw.up (n * (t - b)) (g - b)) w n0 n1 d0 d1 b0 bt t1 bg g1 hP P0 (by omega) (Lib.hid rfl) hr.2.2.1 (by omega)
  have e : Sw.cut n d (Sw.up (n * (t - b)) (g - b)) = r := h
  rw [e] at this
  exact this

set_option maxHeartbeats 1000000 in
theorem need_over (n d b t g : Int) (w : World) (n0 : 0 ≤ n) (n1 : n ≤ 2147483648) (d0 : 0 ≤ d) (d1 : d ≤ n) (b0 : 0 ≤ b) (b1 : b ≤ 2147483648) (t0 : 0 ≤ t) (t1 : t ≤ 2147483648) (g0 : 0 ≤ g) (bg : g ≤ b) :
    Calls Try.prog 22 #[.int .i64 n, .int .i64 d, .int .i64 b, .int .i64 t, .int .i64 g] w fun e w' => e = .returned (.int .i64 (n - d)) ∧ w = w' := by
  go_enter Try.func22, Try.ntmps22
  go_wp2_with fail
  refine (few26_in _ _ (by omega) (by omega)).mono ?_; rintro e w' ⟨rfl, rfl⟩
  go_wp2_with fail
  refine (few26_in _ _ (by omega) (by omega)).mono ?_; rintro e w' ⟨rfl, rfl⟩
  go_wp2_with fail
  refine (few26_in _ _ (by omega) (by omega)).mono ?_; rintro e w' ⟨rfl, rfl⟩
  go_wp2_with fail
  refine (few26_in _ _ (by omega) (by omega)).mono ?_; rintro e w' ⟨rfl, rfl⟩
  go_wp2_with fail
  refine (few26_in _ _ (by omega) (by omega)).mono ?_; rintro e w' ⟨rfl, rfl⟩
  go_wp2_with fail
  go_ret
  exact ⟨ret_int (by omega), rfl⟩

set_option maxHeartbeats 1000000 in
theorem even_over (n b g : Int) (w : World) (n0 : 0 ≤ n) (n1 : n ≤ 2147483648) (b0 : 0 ≤ b) (b1 : b ≤ 2147483648) (g0 : 0 ≤ g) (bg : g ≤ b) :
    Calls Try.prog 24 #[.int .i64 n, .int .i64 b, .int .i64 g] w fun e w' => e = .returned (.int .i64 9223372036854775807) ∧ w = w' := by
  go_enter Try.func24, Try.ntmps24
  go_wp2_with fail
  refine (few26_in _ _ (by omega) (by omega)).mono ?_; rintro e w' ⟨rfl, rfl⟩
  go_wp2_with fail
  refine (few26_in _ _ (by omega) (by omega)).mono ?_; rintro e w' ⟨rfl, rfl⟩
  go_wp2_with fail
  refine (few26_in _ _ (by omega) (by omega)).mono ?_; rintro e w' ⟨rfl, rfl⟩
  go_wp2_with fail
  go_ret
  exact ⟨rfl, rfl⟩

theorem div_grown (a b r : Int) (w : World) (ha : In a) (hb : In b) (h : Fx.div a b = r) : Calls Try.prog 25 #[.int .i64 a, .int .i64 b] w fun e w' => e = .returned (.int .i64 r) ∧ Grown w w' :=
  (div_at a b r w ha hb h).mono fun _ _ ⟨he, _, hw⟩ => ⟨he, by rw [hw]; exact Grown.refl w⟩

set_option maxHeartbeats 1000000 in
theorem even_at (n b g r : Int) (w : World) (n0 : 0 ≤ n) (n1 : n ≤ 2147483648) (b0 : 0 ≤ b) (bg : b < g) (g1 : g ≤ 2147483648) (h : Hid (Fx.div (Fx.whole n) (Fx.whole (g - b)) = r)) :
    Calls Try.prog 24 #[.int .i64 n, .int .i64 b, .int .i64 g] w fun e w' => e = .returned (.int .i64 r) ∧ Grown w w' := by
  go_enter Try.func24, Try.ntmps24
  go_wp2_with fail
  refine (few26_in _ _ (by omega) (by omega)).mono ?_; rintro e w' ⟨rfl, rfl⟩
  go_wp2_with fail
  refine (few26_in _ _ (by omega) (by omega)).mono ?_; rintro e w' ⟨rfl, rfl⟩
  go_wp2_with fail
  refine (few26_in _ _ (by omega) (by omega)).mono ?_; rintro e w' ⟨rfl, rfl⟩
  go_wp2_with fail
  refine (whole_any _ _ (by omega) (by omega)).mono ?_; rintro e w' ⟨rfl, rfl⟩
  go_wp2_with fail
  refine (whole_any _ _ (by omega) (by omega)).mono ?_; rintro e w' ⟨rfl, rfl⟩
  go_wp2_with fail
  refine (div_grown _ _ _ _ (in_sat _) (in_sat _) h.out).mono ?_; rintro e w1 ⟨rfl, g1⟩
  go_wp2_with fail
  go_ret
  exact ⟨rfl, g1⟩

set_option maxHeartbeats 1000000 in
theorem told26_any (w : World) : Calls Try.prog 23 #[] w fun e w' => e = .returned (.bool true) ∧ Grown w w' := by
  go_enter Try.func23, Try.ntmps23
  go_wp2_with fail
  refine (need_at _ _ _ _ _ 5 _ (by omega) (by omega) (by omega) (by omega) (by omega) (by omega) (by omega) (by omega) (by omega) (by decide)).mono ?_; rintro e w' ⟨rfl, rfl⟩
  go_wp2_with fail
  refine (need_at _ _ _ _ _ 1 _ (by omega) (by omega) (by omega) (by omega) (by omega) (by omega) (by omega) (by omega) (by omega) (by decide)).mono ?_; rintro e w' ⟨rfl, rfl⟩
  go_wp2_with fail
  refine (need_over _ _ _ _ _ _ (by omega) (by omega) (by omega) (by omega) (by omega) (by omega) (by omega) (by omega) (by omega) (by omega)).mono ?_; rintro e w' ⟨rfl, rfl⟩
  go_wp2_with fail
  refine (even_over _ _ _ _ (by omega) (by omega) (by omega) (by omega) (by omega) (by omega)).mono ?_; rintro e w' ⟨rfl, rfl⟩
  go_wp2_with fail
  refine (even_at _ _ _ 524288 _ (by omega) (by omega) (by omega) (by omega) (by omega) (Lib.hid (by decide))).mono ?_; rintro e w1 ⟨rfl, g1⟩
  go_wp2_with fail
  go_ret
  exact ⟨rfl, g1⟩

end Go.Proofs.Ytflfhjemblhafaa
