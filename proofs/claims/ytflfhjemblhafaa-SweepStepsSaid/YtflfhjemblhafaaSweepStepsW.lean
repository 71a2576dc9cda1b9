/-
  THE WALK of treadmilllaw26.SweepSteps: who sweeps what is needed ahead of each word is done when the goal is come to, and never sweeps more than its part and one.
-/
import Derived.Test.YtflfhjemblhafaaSweep
namespace Go.Proofs.Ytflfhjemblhafaa
open Go.RowKit

/-- A number as an unsigned one, modulo another. -/
theorem utmod (a m : Int) (hm : 0 < m) : ∃ x, (IntKind.u64.wrap a).tmod m = x ∧ 0 ≤ x ∧ x < m := by
  refine ⟨_, rfl, ?_, ?_⟩
  · rw [u64_wrap, Int.tmod_eq_emod_of_nonneg (by omega)]; exact Int.emod_nonneg _ (by omega)
  · rw [u64_wrap, Int.tmod_eq_emod_of_nonneg (by omega)]; exact Int.emod_lt_of_pos _ hm

set_option maxHeartbeats 4000000 in
theorem sweepSteps_core (a b c n y z : Int) (w : World) (hn : (IntKind.u64.wrap a).tmod 201 = n) (n0 : 0 ≤ n) (n1 : n ≤ 200)
    (hy : (IntKind.u64.wrap b).tmod 300 = y) (y0 : 0 ≤ y) (y1 : y ≤ 299) (hz : (IntKind.u64.wrap c).tmod 20 = z) (z0 : 0 ≤ z) (z1 : z ≤ 19) :
    Calls Try.prog 7 #[.int .i64 a, .int .i64 b, .int .i64 c] w fun e w' => e = .returned (.bool true) ∧ Grown w w' := by
  go_enter Try.func7, Try.ntmps7
  go_wp2_with fail
  go_loop [10, 11] (fun v i => ∃ V A : Int, 0 ≤ A ∧ A ≤ 400 ∧ 0 ≤ V ∧ V ≤ n ∧ V ≤ Sw.up (n * A) (1 + y) ∧ v = .int .i64 V ∧ i = .int .i64 A) (fun _ i => (1 + y - intOf i).toNat)
  case atStart => exact ⟨0, 0, by omega, by omega, by omega, n0, by rw [Int.mul_zero, Sw.up_zero]; omega, rfl, rfl⟩
  case round =>
    obtain ⟨V, A, A0, A1, V0, V1, V2, rfl, rfl⟩ := hrel
    by_cases hlt : A < 1 + y
    · have h0 : 0 ≤ n * A := Int.mul_nonneg n0 A0
      have hle : n * A ≤ n * (1 + y) := Int.mul_le_mul_of_nonneg_left (by omega) n0
      have hb : n * A ≤ 200 * 400 := Int.mul_le_mul n1 A1 A0 (by omega)
      have r := Sw.up_range h0 (show 0 < 1 + y by omega)
      have rn : Sw.up (n * A) (1 + y) ≤ n := Sw.up_le (by omega) h0 hle
      obtain ⟨q, hU⟩ : ∃ q, Sw.up (n * A) (1 + y) = V + q := ⟨Sw.up (n * A) (1 + y) - V, by omega⟩
      rw [hU] at V2 r rn
      have hneed : Hid (Sw.need n V (1000 + A - 1000) (1000 + (1 + y) - 1000) = q) := by
        unfold Sw.need
        rw [show 1000 + A - 1000 = A by omega, show 1000 + (1 + y) - 1000 = 1 + y by omega, hU]
        show Sw.cut n V (V + q) = q
        unfold Sw.cut
        rw [if_neg (by omega), if_neg (by omega)]
        omega
      have hmono : Sw.up (n * A) (1 + y) ≤ Sw.up (n * (A + (1 + z))) (1 + y) := Sw.up_mono (by omega) h0 (Int.mul_le_mul_of_nonneg_left (by omega) n0)
      rw [hU] at hmono
      have HM : Hid (V + q ≤ Sw.up (n * (A + (1 + z))) (1 + y)) := hmono
      obtain ⟨r1, r2, r3, -⟩ := r
      obtain ⟨M1, hM1⟩ : ∃ M, (V + q) * (1 + y) = M := ⟨_, rfl⟩
      obtain ⟨M2, hM2⟩ : ∃ M, n * A = M := ⟨_, rfl⟩
      obtain ⟨M3, hM3⟩ : ∃ M, (V + q - 1) * (1 + y) = M := ⟨_, rfl⟩
      rw [hM1, hM2] at r1 r2
      have e3 : M3 = M1 - (1 + y) := by rw [← hM3, ← hM1, Int.sub_mul, Int.one_mul]
      have b1 : M1 ≤ 90000 := by omega
      rw [hM2] at h0 hb
      have b3 : -301 < M3 := by omega
      have c3 : M3 < M2 := by omega
      clear e3 hU hmono hle V2
      go_wp2_with fail
      refine (need_at _ _ _ _ _ _ _ (by omega) (by omega) (by omega) (by omega) (by omega) (by omega) (by omega) (by omega) (by omega) hneed.out).mono ?_; rintro e w' ⟨rfl, rfl⟩
      have HE : Hid (n * A = M2) := hM2
      go_wp2_with fail
      go_round
      case rel => exact ⟨V + q, A + (1 + z), by omega, by omega, by omega, by omega, HM.out, rfl, rfl⟩
      case measure => simp [intOf]; omega
    · have hP := Sw.up_mul (n := n) (y := 1 + y) (by omega) n0
      have hneed : Hid (Sw.need n V (1000 + (1 + y) - 1000) (1000 + (1 + y) - 1000) = n - V) := by
        show Sw.need n V (1000 + (1 + y) - 1000) (1000 + (1 + y) - 1000) = n - V
        unfold Sw.need
        rw [show 1000 + (1 + y) - 1000 = 1 + y by omega, hP]
        unfold Sw.cut
        rw [if_neg (by omega), if_neg (by omega)]
      have hlast : Hid (Sw.need n n (1000 + 2 * (1 + y) - 1000) (1000 + (1 + y) - 1000) = 0) := by
        show Sw.need n n (1000 + 2 * (1 + y) - 1000) (1000 + (1 + y) - 1000) = 0
        unfold Sw.need
        have hm := Sw.up_mono (a := n * (1 + y)) (b := n * (1000 + 2 * (1 + y) - 1000)) (c := 1 + y) (by omega) (Int.mul_nonneg n0 (by omega)) (Int.mul_le_mul_of_nonneg_left (by omega) n0)
        rw [hP] at hm
        rw [show 1000 + (1 + y) - 1000 = 1 + y by omega]
        generalize Sw.up (n * (1000 + 2 * (1 + y) - 1000)) (1 + y) = u at *
        unfold Sw.cut
        rw [if_neg (by omega)]
        split <;> omega
      obtain ⟨q, hq⟩ : ∃ q, n - V = q := ⟨_, rfl⟩
      rw [hq] at hneed
      have hV : V + q = n := by omega
      clear hP hq
      go_wp2_with fail
      refine (need_at _ _ _ _ _ _ _ (by omega) (by omega) (by omega) (by omega) (by omega) (by omega) (by omega) (by omega) (by omega) hneed.out).mono ?_; rintro e w' ⟨rfl, rfl⟩
      go_wp2_with fail
      refine (told26_any _).mono ?_; rintro e w1 ⟨rfl, g1⟩
      go_wp2_with fail
      refine (need_at _ _ _ _ _ _ _ (by omega) (by omega) (by omega) (by omega) (by omega) (by omega) (by omega) (by omega) (by omega) hlast.out).mono ?_; rintro e w' ⟨rfl, rfl⟩
      go_wp2_with fail
      go_ret
      exact ⟨rfl, g1⟩

theorem sweepSteps_walk (a b c : Int) (w : World) (_a1 : -9223372036854775808 ≤ a) (_a2 : a ≤ 9223372036854775807) (_b1 : -9223372036854775808 ≤ b) (_b2 : b ≤ 9223372036854775807) (_c1 : -9223372036854775808 ≤ c) (_c2 : c ≤ 9223372036854775807) :
    Calls Try.prog 7 #[.int .i64 a, .int .i64 b, .int .i64 c] w fun e w' => e = .returned (.bool true) ∧ Grown w w' := by
  obtain ⟨n, hn, n0, n1⟩ := utmod a 201 (by omega)
  obtain ⟨y, hy, y0, y1⟩ := utmod b 300 (by omega)
  obtain ⟨z, hz, z0, z1⟩ := utmod c 20 (by omega)
  exact sweepSteps_core a b c n y z w hn n0 (by omega) hy y0 (by omega) hz z0 (by omega)

end Go.Proofs.Ytflfhjemblhafaa
