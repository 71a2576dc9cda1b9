/-
  THE WALKS of the reference's whole numbers (layer 1): they come to the same plain functions as package fix's.
-/
import Derived.Test.YtlbefohabphjlaaDiv2
namespace Go.Proofs.Ytlbefohabphjlaa
open Go.RowKit

set_option maxHeartbeats 800000 in
theorem rsize_any (a : Int) (w : World) (h1 : -9223372036854775808 ≤ a) (h2 : a ≤ 9223372036854775807) : Calls Try.prog 47 #[.int .i64 a] w fun e w' => e = .returned (.int .u64 (a.natAbs : Int)) ∧ w = w' := by
  by_cases h : a < 0
  · go_enter Try.func47, Try.ntmps47
    go_wp2
    go_ret
    exact ⟨ret_int (by first | omega | (simp only [u64_wrap, wrap64]; omega)), rfl⟩
  · have h' : 0 ≤ a := by omega
    go_enter Try.func47, Try.ntmps47
    go_wp2
    go_ret
    exact ⟨ret_int (by first | omega | (simp only [u64_wrap, wrap64]; omega)), rfl⟩

set_option maxHeartbeats 800000 in
theorem radd_any (a b : Int) (w : World) (h1 : -9223372036854775808 ≤ a) (h2 : a ≤ 9223372036854775807) (h3 : -9223372036854775808 ≤ b) (h4 : b ≤ 9223372036854775807) : Calls Try.prog 29 #[.int .i64 a, .int .i64 b] w fun e w' => e = .returned (.int .i64 (Fx.add a b)) ∧ w = w' := by
  go_enter Try.func29, Try.ntmps29
  go_wp2_with fail
  all_goals
    go_ret
    exact ⟨ret_int (by unfold Fx.add Fx.sat; first | omega | (simp; omega)), rfl⟩

set_option maxHeartbeats 800000 in
theorem rsub_any (a b : Int) (w : World) (h1 : -9223372036854775808 ≤ a) (h2 : a ≤ 9223372036854775807) (h3 : -9223372036854775808 ≤ b) (h4 : b ≤ 9223372036854775807) : Calls Try.prog 30 #[.int .i64 a, .int .i64 b] w fun e w' => e = .returned (.int .i64 (Fx.sub a b)) ∧ w = w' := by
  go_enter Try.func30, Try.ntmps30
  go_wp2_with fail
  all_goals
    go_ret
    exact ⟨ret_int (by unfold Fx.sub Fx.sat; first | omega | (simp; omega)), rfl⟩

set_option maxHeartbeats 800000 in
theorem rwhole_any (a : Int) (w : World) (h1 : -9223372036854775808 ≤ a) (h2 : a ≤ 9223372036854775807) : Calls Try.prog 23 #[.int .i64 a] w fun e w' => e = .returned (.int .i64 (Fx.whole a)) ∧ w = w' := by
  go_enter Try.func23, Try.ntmps23
  go_wp2_with fail
  all_goals
    go_ret
    exact ⟨ret_int (by unfold Fx.whole Fx.sat; first | omega | (simp only [wrap64]; omega) | (simp; omega)), rfl⟩

theorem rint_any (a : Int) (w : World) : Calls Try.prog 24 #[.int .i64 a] w fun e w' => e = .returned (.int .i64 (Fx.int a)) ∧ w = w' := by
  go_enter Try.func24, Try.ntmps24
  go_wp2
  go_ret
  exact ⟨ret_int (by unfold Fx.int; rfl), rfl⟩

set_option maxHeartbeats 2000000 in
theorem signed_any (hi lo : Int) (b m : Bool) (w : World) (h1 : 0 ≤ hi) (h2 : hi < 9223372036854775807) (h3 : 0 ≤ lo) (h4 : lo < 18446744073709551616) :
    Calls Try.prog 48 #[.bool b, .int .u64 hi, .int .u64 lo, .bool m] w fun e w' => e = .returned (.int .i64 (Fx.made hi lo b m)) ∧ w = w' := by
  cases b <;> cases m
  all_goals
    go_enter Try.func48, Try.ntmps48
    go_wp2_with fail
    all_goals
      go_ret
      refine ⟨ret_int ?_, rfl⟩
      try simp only [beq_iff_eq, beq_eq_false_iff_ne, u64_wrap] at *
      simp only [Fx.made, if_true, if_false, Bool.false_eq_true, wrap64]
      omega

end Go.Proofs.Ytlbefohabphjlaa
