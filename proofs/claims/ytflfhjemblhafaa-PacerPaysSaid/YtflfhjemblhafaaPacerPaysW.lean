/-
  THE WALK of treadmilllaw23.PacerPays: what is to be scanned is scanned by the time the goal is come to.
-/
import Derived.Test.YtflfhjemblhafaaPacer2
namespace Go.Proofs.Ytflfhjemblhafaa
open Go.RowKit

/-- A number as an unsigned one, modulo another. -/
theorem utmod (a m : Int) (hm : 0 < m) : ∃ x, (IntKind.u64.wrap a).tmod m = x ∧ 0 ≤ x ∧ x < m := by
  refine ⟨_, rfl, ?_, ?_⟩
  · rw [u64_wrap, Int.tmod_eq_emod_of_nonneg (by omega)]; exact Int.emod_nonneg _ (by omega)
  · rw [u64_wrap, Int.tmod_eq_emod_of_nonneg (by omega)]; exact Int.emod_lt_of_pos _ hm

set_option maxHeartbeats 2000000 in
theorem pacerPays_core (a1 a2 s v r m q : Int) (w : World) (hs : (IntKind.u64.wrap a1).tmod 1048576 = s) (s0 : 0 ≤ s) (s1 : s ≤ 1048575) (hv : (IntKind.u64.wrap a2).tmod 1048576 = v) (v0 : 0 ≤ v) (v1 : v ≤ 1048575)
    (hr : Hid (Pc.ratio s 1000 (1000 + (1 + v)) = r)) (r0 : 131072 ≤ r) (r1 : r ≤ 67108864)
    (hm : Hid (Fx.mul ((1 + v) * 1048576) r = m)) (hq : Hid (Fx.int m = q)) (hi : Hid (Fx.whole (1 + v) = (1 + v) * 1048576))
    (h : (r = 67108864 ∧ 64 * (1 + v) ≤ s + 64) ∨ (r = 131072 ∧ 8 * (s + 64) ≤ 1 + v + 8) ∨ (131072 < r ∧ r < 67108864 ∧ q ≤ s + 64 ∧ s + 63 ≤ q)) :
    Calls Try.prog 12 #[.int .i64 a1, .int .i64 a2] w fun e w' => e = .returned (.bool true) ∧ Below w.heap.size w w' := by
  rcases h with ⟨rfl, h⟩ | ⟨rfl, h⟩ | ⟨h1, h2, h3, h4⟩
  · go_enter Try.func12, Try.ntmps12
    go_wp2_with fail
    refine (ratio_any _ _ _ _ (in_mk (by omega) (by omega)) (in_mk (by omega) (by omega)) (in_mk (by omega) (by omega))).mono ?_; rw [hr.out]; rintro e w' ⟨rfl, k, rfl⟩
    go_wp2_with fail
    refine (told23_any _).mono ?_; rintro e w1 ⟨rfl, g1⟩
    go_wp2_with fail
    go_ret
    exact ⟨ret_bool (decide_eq_true (by omega)), below_trans (below_drewN (Below.refl _ _) k) g1⟩
  · go_enter Try.func12, Try.ntmps12
    go_wp2_with fail
    refine (ratio_any _ _ _ _ (in_mk (by omega) (by omega)) (in_mk (by omega) (by omega)) (in_mk (by omega) (by omega))).mono ?_; rw [hr.out]; rintro e w' ⟨rfl, k, rfl⟩
    go_wp2_with fail
    refine (told23_any _).mono ?_; rintro e w1 ⟨rfl, g1⟩
    go_wp2_with fail
    go_ret
    exact ⟨ret_bool (rfl), below_trans (below_drewN (Below.refl _ _) k) g1⟩
  · go_enter Try.func12, Try.ntmps12
    go_wp2_with fail
    refine (ratio_any _ _ _ _ (in_mk (by omega) (by omega)) (in_mk (by omega) (by omega)) (in_mk (by omega) (by omega))).mono ?_; rw [hr.out]; rintro e w' ⟨rfl, k, rfl⟩
    go_wp2_with fail
    refine (whole_at _ _ _ (in_mk (by omega) (by omega)) hi.out).mono ?_; rintro e w' ⟨rfl, rfl⟩
    go_wp2_with fail
    refine (mul_at _ _ _ _ (in_mk (by omega) (by omega)) (in_mk (by omega) (by omega)) hm.out).mono ?_; rintro e w' ⟨rfl, rfl⟩
    go_wp2_with fail
    refine (int_at _ _ _ hq.out).mono ?_; rintro e w' ⟨rfl, rfl⟩
    go_wp2_with fail
    refine (told23_any _).mono ?_; rintro e w1 ⟨rfl, g1⟩
    go_wp2_with fail
    go_ret
    exact ⟨ret_bool (decide_eq_true (by omega)), below_trans (below_drewN (Below.refl _ _) k) g1⟩

theorem pays_quo {s v : Int} (s0 : 0 ≤ s) (s1 : s ≤ 1048575) (v0 : 0 ≤ v) (v1 : v ≤ 1048575) : Pc.quo s 1000 (1000 + (1 + v)) = (s + 64) * 1048576 / (1 + v) := by
  have e1 : Pc.work s = (s + 64) * 1048576 := by
    unfold Pc.work Fx.add
    rw [Int.max_eq_left s0, Fx.sat_eq (by omega) (by omega)]
    exact Fx.sat_eq (by omega) (by omega)
  have e2 : Pc.room 1000 (1000 + (1 + v)) = (1 + v) * 1048576 := by
    unfold Pc.room Fx.sub
    rw [Fx.sat_eq (by omega) (by omega), Int.max_eq_left (by omega), show 1000 + (1 + v) - 1000 = 1 + v by omega]
    exact Fx.sat_eq (by omega) (by omega)
  unfold Pc.quo
  rw [e1, e2]
  unfold Fx.div
  have hd : ((s + 64) * 1048576 * 1048576).fdiv ((1 + v) * 1048576) = (s + 64) * 1048576 / (1 + v) := by
    rw [Int.fdiv_eq_ediv_of_nonneg _ (by omega), Int.mul_ediv_mul_of_pos_left _ _ (by omega)]
  have h1 : 0 ≤ (s + 64) * 1048576 / (1 + v) := Int.ediv_nonneg (by omega) (by omega)
  have h2 : (s + 64) * 1048576 / (1 + v) ≤ (s + 64) * 1048576 := Int.ediv_le_self _ (by omega)
  rw [if_neg (by omega), hd]
  exact Fx.sat_eq (by omega) (by omega)

theorem pacerPays_walk (a1 a2 : Int) (w : World) (_a1 : -9223372036854775808 ≤ a1) (_a2 : a1 ≤ 9223372036854775807) (_b1 : -9223372036854775808 ≤ a2) (_b2 : a2 ≤ 9223372036854775807) :
    Calls Try.prog 12 #[.int .i64 a1, .int .i64 a2] w fun e w' => e = .returned (.bool true) ∧ Below w.heap.size w w' := by
  obtain ⟨s, hs, s0, s1⟩ := utmod a1 1048576 (by omega)
  obtain ⟨v, hv, v0, v1⟩ := utmod a2 1048576 (by omega)
  have hQ := pays_quo s0 (by omega) v0 (by omega)
  have g := Int.mul_ediv_add_emod ((s + 64) * 1048576) (1 + v)
  have g1 := Int.emod_nonneg ((s + 64) * 1048576) (show 1 + v ≠ 0 by omega)
  have g2 := Int.emod_lt_of_pos ((s + 64) * 1048576) (show 0 < 1 + v by omega)
  rw [Int.mul_comm] at g
  have hr : Pc.ratio s 1000 (1000 + (1 + v)) = cl 131072 67108864 ((s + 64) * 1048576 / (1 + v)) := by unfold Pc.ratio; rw [hQ]
  obtain ⟨Q, hQQ⟩ : ∃ Q, (s + 64) * 1048576 / (1 + v) = Q := ⟨_, rfl⟩
  rw [hQQ] at hr g
  have rr := cl_range (lo := 131072) (hi := 67108864) Q (by omega)
  have hwh : Fx.whole (1 + v) = (1 + v) * 1048576 := Fx.sat_eq (by omega) (by omega)
  refine pacerPays_core a1 a2 s v _ _ _ w hs s0 (by omega) hv v0 (by omega) (Lib.hid hr) rr.1 rr.2 (Lib.hid rfl) (Lib.hid rfl) (Lib.hid hwh) ?_
  rcases Int.lt_or_le Q 131073 with h | h
  · have e : cl 131072 67108864 Q = 131072 := by unfold cl; repeat' split <;> omega
    refine .inr (.inl ⟨e, ?_⟩)
    have := Int.mul_le_mul_of_nonneg_right (show Q ≤ 131072 by omega) (show 0 ≤ 1 + v by omega)
    omega
  · rcases Int.lt_or_le Q 67108864 with h' | h'
    · have e : cl 131072 67108864 Q = Q := cl_in (by omega) (by omega)
      rw [e]
      have p0 : 0 ≤ Q * (1 + v) := Int.mul_nonneg (by omega) (by omega)
      have em : Fx.mul ((1 + v) * 1048576) Q = Q * (1 + v) := by
        unfold Fx.mul
        rw [show (1 + v) * 1048576 * Q = Q * (1 + v) * 1048576 by rw [Int.mul_comm, ← Int.mul_assoc]]
        rw [Int.mul_ediv_cancel _ (by omega)]
        exact Fx.sat_eq (by omega) (by omega)
      rw [em]
      have ei : Fx.int (Q * (1 + v)) = Q * (1 + v) / 1048576 := rfl
      rw [ei]
      exact .inr (.inr ⟨by omega, h', by omega, by omega⟩)
    · have e : cl 131072 67108864 Q = 67108864 := by unfold cl; repeat' split <;> omega
      refine .inl ⟨e, ?_⟩
      have := Int.mul_le_mul_of_nonneg_right h' (show 0 ≤ 1 + v by omega)
      omega
end Go.Proofs.Ytflfhjemblhafaa
