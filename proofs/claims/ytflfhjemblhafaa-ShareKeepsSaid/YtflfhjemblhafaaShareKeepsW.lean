/-
  THE WALK of treadmilllaw24.ShareKeeps: who works whenever they may keeps to the part of all their steps.
-/
import Derived.Test.YtflfhjemblhafaaShare
namespace Go.Proofs.Ytflfhjemblhafaa
open Go.RowKit

/-- A number as an unsigned one, modulo another. -/
theorem utmod (a m : Int) (hm : 0 < m) : ∃ x, (IntKind.u64.wrap a).tmod m = x ∧ 0 ≤ x ∧ x < m := by
  refine ⟨_, rfl, ?_, ?_⟩
  · rw [u64_wrap, Int.tmod_eq_emod_of_nonneg (by omega)]; exact Int.emod_nonneg _ (by omega)
  · rw [u64_wrap, Int.tmod_eq_emod_of_nonneg (by omega)]; exact Int.emod_lt_of_pos _ hm

theorem mayW_small {x y p : Int} (x0 : 0 ≤ x) (x1 : x ≤ 600) (y0 : 0 ≤ y) (y1 : y ≤ 600) (p0 : 0 ≤ p) (p1 : p ≤ 1048576) : mayW x y p = decide ((x + 1) * 1048576 ≤ (y + 1) * p) := by
  unfold mayW
  rw [cl_in x0 (by omega), cl_in y0 (by omega)]
  have h1 : Fx.whole (x + 1) = (x + 1) * 1048576 := Fx.sat_eq (by omega) (by omega)
  have h2 : Fx.whole (y + 1) = (y + 1) * 1048576 := Fx.sat_eq (by omega) (by omega)
  have h3 : (y + 1) * p ≤ 601 * 1048576 := Int.mul_le_mul (by omega) p1 p0 (by omega)
  have h4 : 0 ≤ (y + 1) * p := Int.mul_nonneg (by omega) p0
  have h5 : Fx.mul ((y + 1) * 1048576) p = (y + 1) * p := by
    unfold Fx.mul
    rw [Int.mul_right_comm, Int.mul_ediv_cancel _ (by omega)]
    exact Fx.sat_eq (by omega) (by omega)
  rw [h1, h2, h5]

set_option maxHeartbeats 4000000 in
theorem shareKeeps_core (a b x n : Int) (w : World) (hx : (IntKind.u64.wrap a).tmod 1032193 = x) (x0 : 0 ≤ x) (x1 : x ≤ 1032192) (hn : (IntKind.u64.wrap b).tmod 501 = n) (n0 : 0 ≤ n) (n1 : n ≤ 500) :
    Calls Try.prog 5 #[.int .i64 a, .int .i64 b] w fun e w' => e = .returned (.bool true) ∧ Grown w w' := by
  go_enter Try.func5, Try.ntmps5
  go_wp2_with fail
  go_loop [6, 8] (fun v i => ∃ k : Nat, (k : Int) ≤ n ∧ i = .int .i64 k ∧ v = .int .i64 ((k : Int) * (16384 + x) / 1048576)) (fun _ i => (n - intOf i).toNat)
  case atStart => exact ⟨0, by omega, rfl, by simp⟩
  case round =>
    obtain ⟨k, hk, rfl, rfl⟩ := hrel
    have t0 : (0 : Int) ≤ (k : Int) * (16384 + x) := Int.mul_nonneg (by omega) (by omega)
    have t1 : (k : Int) * (16384 + x) ≤ 500 * 1048576 := Int.mul_le_mul (by omega) (by omega) (by omega) (by omega)
    obtain ⟨T, hT⟩ : ∃ T, ((k : Int) + 1) * (16384 + x) = T := ⟨_, rfl⟩
    have hT2 : T = (k : Int) * (16384 + x) + (16384 + x) := by rw [← hT, Int.add_mul, Int.one_mul]
    obtain ⟨S, hS⟩ : ∃ S, (k : Int) * (16384 + x) = S := ⟨_, rfl⟩
    rw [hS] at t0 t1 hT2
    have hT0 : T < 600000000 := by omega
    have hT1 : S ≤ T := by omega
    have hT3 : T ≤ S + 1048576 := by omega
    obtain ⟨W, hW⟩ : ∃ W, S / 1048576 = W := ⟨_, rfl⟩
    have hW1 : W * 1048576 ≤ S := by omega
    have hW2 : S < W * 1048576 + 1048576 := by omega
    have hW0 : 0 ≤ W := by omega
    have hW3 : W ≤ 500 := by omega
    by_cases hlt : (k : Int) < n
    · have hm := mayW_small (x := W) (y := k) (p := 16384 + x) hW0 (by omega) (by omega) (by omega) (by omega) (by omega)
      rw [hT] at hm
      by_cases hmay : (W + 1) * 1048576 ≤ T
      · rw [decide_eq_true hmay] at hm
        have HM := Lib.hid hm
        have HT := Lib.hid hT
        clear hm hT2
        have e : W + 1 = T / 1048576 := by omega
        have HE := Lib.hid e
        clear e
        go_wp2_with fail
        refine (may_at _ _ _ _ _ (in_mk (by omega) (by omega)) HM.out).mono ?_; rintro e w' ⟨rfl, rfl⟩
        go_wp2_with fail
        go_round
        case rel => exact ⟨k + 1, by omega, by rw [Int.natCast_add]; rfl, by rw [Int.natCast_add, show ((1 : Nat) : Int) = 1 from rfl, HT.out, HE.out]⟩
        case measure => simp [intOf]; omega
      · rw [decide_eq_false hmay] at hm
        have HM := Lib.hid hm
        have HT := Lib.hid hT
        clear hm hT2
        have e : W = T / 1048576 := by omega
        have HE := Lib.hid e
        clear e
        go_wp2_with fail
        refine (may_at _ _ _ _ _ (in_mk (by omega) (by omega)) HM.out).mono ?_; rintro e w' ⟨rfl, rfl⟩
        go_wp2_with fail
        go_round
        case rel => exact ⟨k + 1, by omega, by rw [Int.natCast_add]; rfl, by rw [Int.natCast_add, show ((1 : Nat) : Int) = 1 from rfl, HT.out, ← HE.out]⟩
        case measure => simp [intOf]; omega
    · clear hT hT2 hT0 hT1 hT3
      go_wp2_with fail
      refine (told24_any _).mono ?_; rintro e w1 ⟨rfl, g1⟩
      go_wp2_with fail
      go_ret
      exact ⟨rfl, g1⟩

theorem shareKeeps_walk (a b : Int) (w : World) (_a1 : -9223372036854775808 ≤ a) (_a2 : a ≤ 9223372036854775807) (_b1 : -9223372036854775808 ≤ b) (_b2 : b ≤ 9223372036854775807) :
    Calls Try.prog 5 #[.int .i64 a, .int .i64 b] w fun e w' => e = .returned (.bool true) ∧ Grown w w' := by
  obtain ⟨x, hx, x0, x1⟩ := utmod a 1032193 (by omega)
  obtain ⟨n, hn, n0, n1⟩ := utmod b 501 (by omega)
  exact shareKeeps_core a b x n w hx x0 (by omega) hn n0 (by omega)

end Go.Proofs.Ytflfhjemblhafaa
