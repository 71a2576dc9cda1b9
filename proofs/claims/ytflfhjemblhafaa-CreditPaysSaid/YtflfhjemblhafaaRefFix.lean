/-
  THE WALKS of the reference's whole numbers (layer 1): they come to the same plain functions as package fix's.
-/
import Derived.Test.YtflfhjemblhafaaDiv2
namespace Go.Proofs.Ytflfhjemblhafaa
open Go.RowKit

set_option maxHeartbeats 800000 in
theorem rsize_any (a : Int) (w : World) (h1 : -9223372036854775808 ≤ a) (h2 : a ≤ 9223372036854775807) : Calls Try.prog 59 #[.int .i64 a] w fun e w' => e = .returned (.int .u64 (a.natAbs : Int)) ∧ w = w' := by
  by_cases h : a < 0
  · go_enter Try.func59, Try.ntmps59
    go_wp2
    go_ret
    exact ⟨ret_int (by first | omega | (simp only [u64_wrap, wrap64]; omega)), rfl⟩
  · have h' : 0 ≤ a := by omega
    go_enter Try.func59, Try.ntmps59
    go_wp2
    go_ret
    exact ⟨ret_int (by first | omega | (simp only [u64_wrap, wrap64]; omega)), rfl⟩



set_option maxHeartbeats 800000 in
theorem rwhole_any (a : Int) (w : World) (h1 : -9223372036854775808 ≤ a) (h2 : a ≤ 9223372036854775807) : Calls Try.prog 45 #[.int .i64 a] w fun e w' => e = .returned (.int .i64 (Fx.whole a)) ∧ w = w' := by
  go_enter Try.func45, Try.ntmps45
  go_wp2_with fail
  all_goals
    go_ret
    exact ⟨ret_int (by unfold Fx.whole Fx.sat; first | omega | (simp only [wrap64]; omega) | (simp; omega)), rfl⟩


set_option maxHeartbeats 2000000 in
theorem signed_any (hi lo : Int) (b m : Bool) (w : World) (h1 : 0 ≤ hi) (h2 : hi < 9223372036854775807) (h3 : 0 ≤ lo) (h4 : lo < 18446744073709551616) :
    Calls Try.prog 60 #[.bool b, .int .u64 hi, .int .u64 lo, .bool m] w fun e w' => e = .returned (.int .i64 (Fx.made hi lo b m)) ∧ w = w' := by
  cases b <;> cases m
  all_goals
    go_enter Try.func60, Try.ntmps60
    go_wp2_with fail
    all_goals
      go_ret
      refine ⟨ret_int ?_, rfl⟩
      try simp only [beq_iff_eq, beq_eq_false_iff_ne, u64_wrap] at *
      simp only [Fx.made, if_true, if_false, Bool.false_eq_true, wrap64]
      omega

end Go.Proofs.Ytflfhjemblhafaa
