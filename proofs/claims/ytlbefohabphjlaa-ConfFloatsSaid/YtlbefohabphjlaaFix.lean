/-
  THE WALKS of package fix's whole numbers: edge, size, made, Add, Sub, Mul, Whole, Int: each comes to the plain function of the text ..Math.
-/
import Derived.Test.YtlbefohabphjlaaRows
import Derived.Test.YtlbefohabphjlaaShelf
import Derived.Test.YtlbefohabphjlaaMath
import Derived.WalkKit
import Derived.WalkSpells
import Derived.WalkLawsBesides
namespace Go.Proofs.Ytlbefohabphjlaa
open Go.RowKit

theorem ret_int {k : IntKind} {a b : Int} (h : a = b) : Ending.returned (.int k a) = .returned (.int k b) := by rw [h]
theorem ret_int2 {k l : IntKind} {a b c d : Int} (h : a = b) (g : c = d) : Ending.returned (.tuple #[.int k a, .int l c]) = .returned (.tuple #[.int k b, .int l d]) := by rw [h, g]
theorem ret_bool {a b : Bool} (h : a = b) : Ending.returned (.bool a) = .returned (.bool b) := by rw [h]

theorem u64_wrap (x : Int) : IntKind.u64.wrap x = x % 18446744073709551616 := by
  simp [IntKind.wrap, IntKind.signed, IntKind.bits]
theorem u64_in {x : Int} (h0 : 0 ≤ x) (h1 : x < 18446744073709551616) : IntKind.u64.wrap x = x := by
  rw [u64_wrap]; omega
theorem i64_in {x : Int} (h0 : -9223372036854775808 ≤ x) (h1 : x ≤ 9223372036854775807) : IntKind.i64.wrap x = x := IntWalk.i64_in x ⟨h0, h1⟩

set_option maxHeartbeats 400000 in
theorem edge_t (w : World) : Calls Try.prog 41 #[.bool true] w fun e w' => e = .returned (.int .i64 (-9223372036854775808)) ∧ w = w' := by
  go_enter Try.func41, Try.ntmps41
  go_wp2
  go_ret
  exact ⟨rfl, rfl⟩
set_option maxHeartbeats 400000 in
theorem edge_f (w : World) : Calls Try.prog 41 #[.bool false] w fun e w' => e = .returned (.int .i64 9223372036854775807) ∧ w = w' := by
  go_enter Try.func41, Try.ntmps41
  go_wp2
  go_ret
  exact ⟨rfl, rfl⟩
theorem edge_any (b : Bool) (w : World) : Calls Try.prog 41 #[.bool b] w fun e w' => e = .returned (.int .i64 (if b = true then -9223372036854775808 else 9223372036854775807)) ∧ w = w' := by
  cases b
  · exact edge_f w
  · exact edge_t w

set_option maxHeartbeats 400000 in
theorem size_any (a : Int) (w : World) (h1 : -9223372036854775808 ≤ a) (h2 : a ≤ 9223372036854775807) : Calls Try.prog 43 #[.int .i64 a] w fun e w' => e = .returned (.int .u64 (a.natAbs : Int)) ∧ w = w' := by
  by_cases h : a < 0
  · go_enter Try.func43, Try.ntmps43
    go_wp2
    go_ret
    exact ⟨ret_int (by rw [u64_wrap, u64_wrap]; omega), rfl⟩
  · have h' : 0 ≤ a := by omega
    go_enter Try.func43, Try.ntmps43
    go_wp2
    go_ret
    exact ⟨ret_int (by first | omega | (rw [u64_wrap]; omega)), rfl⟩

set_option maxHeartbeats 800000 in
theorem add_any (a b : Int) (w : World) (h1 : -9223372036854775808 ≤ a) (h2 : a ≤ 9223372036854775807) (h3 : -9223372036854775808 ≤ b) (h4 : b ≤ 9223372036854775807) : Calls Try.prog 16 #[.int .i64 a, .int .i64 b] w fun e w' => e = .returned (.int .i64 (Fx.add a b)) ∧ w = w' := by
  go_enter Try.func16, Try.ntmps16
  go_wp2_with (go_at_call 41; refine (edge_any _ _).mono ?_; rintro e w' ⟨rfl, rfl⟩)
  all_goals
    go_ret
    exact ⟨ret_int (by unfold Fx.add Fx.sat; first | omega | (simp; omega)), rfl⟩

set_option maxHeartbeats 800000 in
theorem sub_any (a b : Int) (w : World) (h1 : -9223372036854775808 ≤ a) (h2 : a ≤ 9223372036854775807) (h3 : -9223372036854775808 ≤ b) (h4 : b ≤ 9223372036854775807) : Calls Try.prog 17 #[.int .i64 a, .int .i64 b] w fun e w' => e = .returned (.int .i64 (Fx.sub a b)) ∧ w = w' := by
  go_enter Try.func17, Try.ntmps17
  go_wp2_with (go_at_call 41; refine (edge_any _ _).mono ?_; rintro e w' ⟨rfl, rfl⟩)
  all_goals
    go_ret
    exact ⟨ret_int (by unfold Fx.sub Fx.sat; first | omega | (simp; omega)), rfl⟩

theorem int_any (a : Int) (w : World) : Calls Try.prog 19 #[.int .i64 a] w fun e w' => e = .returned (.int .i64 (Fx.int a)) ∧ w = w' := by
  go_enter Try.func19, Try.ntmps19
  go_wp2
  go_ret
  exact ⟨ret_int (by unfold Fx.int; rfl), rfl⟩

/-- The builtin that adds two words. -/
theorem add64_run (x : Int) (h0 : 0 ≤ x) (w : World) : (callFunc 50 #[.int .u64 x, .int .u64 1, .int .u64 0]).run Try.prog w =
    .ok (.value (.tuple #[.int .u64 ((x + 1 + 0) % 18446744073709551616), .int .u64 ((x + 1 + 0) / 18446744073709551616)])) w := by
  rw [run_callFunc_extern (e := add64Entry) Try.func50 (by kernel_rfl) (by kernel_rfl) (by kernel_rfl) (by kernel_rfl), run_add64 x 1 0 h0 (by omega) (by omega) (by omega)]
  rfl

theorem made_end {hi lo x : Int} {b m : Bool} (h : x = Fx.made hi lo b m) : Ending.returned (.int .i64 x) = .returned (.int .i64 (Fx.made hi lo b m)) := ret_int h

set_option maxHeartbeats 1000000 in
theorem made_any (hi lo : Int) (b m : Bool) (w : World) (h1 : 0 ≤ hi) (h2 : hi < 9223372036854775807) (h3 : 0 ≤ lo) (h4 : lo < 18446744073709551616) :
    Calls Try.prog 44 #[.int .u64 hi, .int .u64 lo, .bool b, .bool m] w fun e w' => e = .returned (.int .i64 (Fx.made hi lo b m)) ∧ w = w' := by
  have hadd := add64_run lo h3
  cases b <;> cases m
  all_goals
    go_enter Try.func44, Try.ntmps44
    go_wp2_with (go_at_call 41; refine (edge_any _ _).mono ?_; rintro e w' ⟨rfl, rfl⟩)
    all_goals
      go_ret
      refine ⟨ret_int ?_, rfl⟩
      clear hadd
      try simp only [beq_iff_eq, beq_eq_false_iff_ne] at *
      simp only [Fx.made, if_true, if_false, Bool.false_eq_true, u64_wrap, wrap64]
      omega

theorem u64_join (x y : Int) (i : Nat) (hx : 0 ≤ x) (hm : x % 2 ^ i = 0) (hy : 0 ≤ y) (hlt : y < 2 ^ i) (h1 : x < 18446744073709551616) (h2 : y < 18446744073709551616) : bits .or .u64 x y = x + y := by
  obtain ⟨X, rfl⟩ := Int.eq_ofNat_of_zero_le hx
  obtain ⟨Y, rfl⟩ := Int.eq_ofNat_of_zero_le hy
  rw [u64_or_nat X Y (by omega) (by omega), nat_join i X Y (by exact_mod_cast hm) (by exact_mod_cast hlt)]
  omega
theorem u64_mask (x : Int) (i : Nat) (hi : i ≤ 63) (h0 : 0 ≤ x) (h1 : x < 18446744073709551616) : bits .and .u64 x (2 ^ i - 1) = x % 2 ^ i := by
  obtain ⟨X, rfl⟩ := Int.eq_ofNat_of_zero_le h0
  have h := Nat.pow_le_pow_right (show 0 < 2 by omega) hi
  have hp : 0 < 2 ^ i := Nat.two_pow_pos i
  rw [show ((2 : Int) ^ i - 1) = ((2 ^ i - 1 : Nat) : Int) from by rw [Int.natCast_sub hp]; simp]
  rw [u64_and_nat X _ (by omega) (by omega), Nat.and_two_pow_sub_one_eq_mod]
  simp

end Go.Proofs.Ytlbefohabphjlaa
