/-
  THE WALK of treadmilllaw24.ShareDedicates: so many Ps as Workers says are dedicated, the first ones; with a greater part no fewer.
-/
import Derived.Test.YtflfhjemblhafaaShare
namespace Go.Proofs.Ytflfhjemblhafaa
open Go.RowKit

/-- A number as an unsigned one, modulo another. -/
theorem utmod (a m : Int) (hm : 0 < m) : ∃ x, (IntKind.u64.wrap a).tmod m = x ∧ 0 ≤ x ∧ x < m := by
  refine ⟨_, rfl, ?_, ?_⟩
  · rw [u64_wrap, Int.tmod_eq_emod_of_nonneg (by omega)]; exact Int.emod_nonneg _ (by omega)
  · rw [u64_wrap, Int.tmod_eq_emod_of_nonneg (by omega)]; exact Int.emod_lt_of_pos _ hm

/-- What the walk takes for granted of n Ps and two parts. -/
structure DedAt (n x y d e f g : Int) : Prop where
  hd : Sh.dd (cl 1 64 n) (cl 0 1048576 x) = d
  hg : Sh.ff (cl 1 64 n) (cl 0 1048576 x) = g
  he : Sh.dd (cl 1 64 n) (cl 0 1048576 y) = e
  hf : Sh.ff (cl 1 64 n) (cl 0 1048576 y) = f
  ha : Sh.dd (cl 1 64 n) (cl 0 1048576 1048576) = n
  hz : Sh.ff (cl 1 64 n) (cl 0 1048576 1048576) = 0

set_option maxHeartbeats 1000000 in
theorem shareDedicates_core (a b c X Y z x y d e f g : Int) (w : World) (hz : (IntKind.u64.wrap a).tmod 64 = z) (z0 : 0 ≤ z) (z1 : z ≤ 63)
    (hX : (IntKind.u64.wrap b).tmod 1048577 = X) (X0 : 0 ≤ X) (X1 : X ≤ 1048576) (hY : (IntKind.u64.wrap c).tmod 1048577 = Y) (Y0 : 0 ≤ Y) (Y1 : Y ≤ 1048576)
    (hxy : (X ≤ Y ∧ x = X ∧ y = Y) ∨ (Y < X ∧ x = Y ∧ y = X)) (H : Hid (DedAt (1 + z) x y d e f g)) (_d0 : 0 ≤ d) (de : d ≤ e) (en : e ≤ 1 + z) (f0 : 0 ≤ f) :
    Calls Try.prog 6 #[.int .i64 a, .int .i64 b, .int .i64 c] w fun e w' => e = .returned (.bool true) ∧ Grown w w' := by
  rcases hxy with ⟨h, rfl, rfl⟩ | ⟨h, rfl, rfl⟩
  · have q3 : decide (y < x) = false := decide_eq_false (by omega)
    have q1 : decide (e < d) = false := decide_eq_false (by omega)
    have q2 : decide (1 + z < e) = false := decide_eq_false (by omega)
    go_enter Try.func6, Try.ntmps6
    go_wp2_with fail
    refine (workers_grown _ _ _ _ _ H.out.hd H.out.hg).mono ?_; rintro e1 w1 ⟨rfl, g1⟩
    go_wp2_with fail
    refine (workers_grown _ _ _ _ _ H.out.he H.out.hf).mono ?_; rintro e2 w2 ⟨rfl, g2⟩
    go_wp2_with fail
    have g12 := grown_trans g1 g2
    go_loopw [14] (fun i wr => ∃ q : Int, -1 ≤ q ∧ q ≤ 2 + z ∧ i = .int .i64 q ∧ Grown w wr) (fun i _ => (2 + z - intOf i).toNat)
    case atStart => exact ⟨-1, by omega, by omega, rfl, g12⟩
    case round =>
      obtain ⟨q, qa, qb, rfl, gr⟩ := hrel
      by_cases hlt : q ≤ 1 + z
      · rcases (by omega : q < 0 ∨ (0 ≤ q ∧ q < d) ∨ (0 ≤ q ∧ d ≤ q)) with h1 | ⟨h1, h2⟩ | ⟨h1, h2⟩
        · have hb : Hid (decide (0 ≤ q ∧ q < d) = false) := decide_eq_false (by omega)
          go_wp2_with fail
          refine (dedicated_grown _ _ _ _ _ _ _ H.out.hd H.out.hg hb.out).mono ?_; rintro e3 w3 ⟨rfl, g3⟩
          go_wp2_with fail
          go_roundw
          case rel => exact ⟨q + 1, by omega, by omega, rfl, grown_trans gr g3⟩
          case measure => simp [intOf]; omega
        · have hb : Hid (decide (0 ≤ q ∧ q < d) = true) := decide_eq_true (by omega)
          go_wp2_with fail
          refine (dedicated_grown _ _ _ _ _ _ _ H.out.hd H.out.hg hb.out).mono ?_; rintro e3 w3 ⟨rfl, g3⟩
          go_wp2_with fail
          go_roundw
          case rel => exact ⟨q + 1, by omega, by omega, rfl, grown_trans gr g3⟩
          case measure => simp [intOf]; omega
        · have hb : Hid (decide (0 ≤ q ∧ q < d) = false) := decide_eq_false (by omega)
          have h4 : decide (q < d) = false := decide_eq_false (by omega)
          go_wp2_with fail
          refine (dedicated_grown _ _ _ _ _ _ _ H.out.hd H.out.hg hb.out).mono ?_; rintro e3 w3 ⟨rfl, g3⟩
          go_wp2_with fail
          go_roundw
          case rel => exact ⟨q + 1, by omega, by omega, rfl, grown_trans gr g3⟩
          case measure => simp [intOf]; omega
      · go_wp2_with fail
        refine (workers_grown _ _ _ _ _ H.out.ha H.out.hz).mono ?_; rintro e4 w4 ⟨rfl, g4⟩
        go_wp2_with fail
        refine (told24_any _).mono ?_; rintro e5 w5 ⟨rfl, g5⟩
        go_wp2_with fail
        refine (may_at _ _ _ true _ (in_mk (by omega) (by omega)) (by decide)).mono ?_; rintro e6 w' ⟨rfl, rfl⟩
        go_wp2_with fail
        refine (may_at _ _ _ false _ (in_mk (by omega) (by omega)) (by decide)).mono ?_; rintro e7 w' ⟨rfl, rfl⟩
        go_wp2_with fail
        go_ret
        exact ⟨rfl, grown_trans gr (grown_trans g4 g5)⟩
  · have q3 : decide (x < y) = true := decide_eq_true (by omega)
    have q1 : decide (e < d) = false := decide_eq_false (by omega)
    have q2 : decide (1 + z < e) = false := decide_eq_false (by omega)
    go_enter Try.func6, Try.ntmps6
    go_wp2_with fail
    refine (workers_grown _ _ _ _ _ H.out.hd H.out.hg).mono ?_; rintro e1 w1 ⟨rfl, g1⟩
    go_wp2_with fail
    refine (workers_grown _ _ _ _ _ H.out.he H.out.hf).mono ?_; rintro e2 w2 ⟨rfl, g2⟩
    go_wp2_with fail
    have g12 := grown_trans g1 g2
    go_loopw [14] (fun i wr => ∃ q : Int, -1 ≤ q ∧ q ≤ 2 + z ∧ i = .int .i64 q ∧ Grown w wr) (fun i _ => (2 + z - intOf i).toNat)
    case atStart => exact ⟨-1, by omega, by omega, rfl, g12⟩
    case round =>
      obtain ⟨q, qa, qb, rfl, gr⟩ := hrel
      by_cases hlt : q ≤ 1 + z
      · rcases (by omega : q < 0 ∨ (0 ≤ q ∧ q < d) ∨ (0 ≤ q ∧ d ≤ q)) with h1 | ⟨h1, h2⟩ | ⟨h1, h2⟩
        · have hb : Hid (decide (0 ≤ q ∧ q < d) = false) := decide_eq_false (by omega)
          go_wp2_with fail
          refine (dedicated_grown _ _ _ _ _ _ _ H.out.hd H.out.hg hb.out).mono ?_; rintro e3 w3 ⟨rfl, g3⟩
          go_wp2_with fail
          go_roundw
          case rel => exact ⟨q + 1, by omega, by omega, rfl, grown_trans gr g3⟩
          case measure => simp [intOf]; omega
        · have hb : Hid (decide (0 ≤ q ∧ q < d) = true) := decide_eq_true (by omega)
          go_wp2_with fail
          refine (dedicated_grown _ _ _ _ _ _ _ H.out.hd H.out.hg hb.out).mono ?_; rintro e3 w3 ⟨rfl, g3⟩
          go_wp2_with fail
          go_roundw
          case rel => exact ⟨q + 1, by omega, by omega, rfl, grown_trans gr g3⟩
          case measure => simp [intOf]; omega
        · have hb : Hid (decide (0 ≤ q ∧ q < d) = false) := decide_eq_false (by omega)
          have h4 : decide (q < d) = false := decide_eq_false (by omega)
          go_wp2_with fail
          refine (dedicated_grown _ _ _ _ _ _ _ H.out.hd H.out.hg hb.out).mono ?_; rintro e3 w3 ⟨rfl, g3⟩
          go_wp2_with fail
          go_roundw
          case rel => exact ⟨q + 1, by omega, by omega, rfl, grown_trans gr g3⟩
          case measure => simp [intOf]; omega
      · go_wp2_with fail
        refine (workers_grown _ _ _ _ _ H.out.ha H.out.hz).mono ?_; rintro e4 w4 ⟨rfl, g4⟩
        go_wp2_with fail
        refine (told24_any _).mono ?_; rintro e5 w5 ⟨rfl, g5⟩
        go_wp2_with fail
        refine (may_at _ _ _ true _ (in_mk (by omega) (by omega)) (by decide)).mono ?_; rintro e6 w' ⟨rfl, rfl⟩
        go_wp2_with fail
        refine (may_at _ _ _ false _ (in_mk (by omega) (by omega)) (by decide)).mono ?_; rintro e7 w' ⟨rfl, rfl⟩
        go_wp2_with fail
        go_ret
        exact ⟨rfl, grown_trans gr (grown_trans g4 g5)⟩

theorem dd_mono {n x y : Int} (hn : 1 ≤ n) (h : x ≤ y) : Sh.dd n x ≤ Sh.dd n y := by
  unfold Sh.dd
  have := Int.mul_le_mul_of_nonneg_left h (show 0 ≤ n by omega)
  omega

theorem shareDedicates_walk (a b c : Int) (w : World) (_a1 : -9223372036854775808 ≤ a) (_a2 : a ≤ 9223372036854775807) (_b1 : -9223372036854775808 ≤ b) (_b2 : b ≤ 9223372036854775807) (_c1 : -9223372036854775808 ≤ c) (_c2 : c ≤ 9223372036854775807) :
    Calls Try.prog 6 #[.int .i64 a, .int .i64 b, .int .i64 c] w fun e w' => e = .returned (.bool true) ∧ Grown w w' := by
  obtain ⟨z, hz, z0, z1⟩ := utmod a 64 (by omega)
  obtain ⟨X, hX, X0, X1⟩ := utmod b 1048577 (by omega)
  obtain ⟨Y, hY, Y0, Y1⟩ := utmod c 1048577 (by omega)
  obtain ⟨x, y, hxy, hle, x0, y1⟩ : ∃ x y, ((X ≤ Y ∧ x = X ∧ y = Y) ∨ (Y < X ∧ x = Y ∧ y = X)) ∧ x ≤ y ∧ 0 ≤ x ∧ y ≤ 1048576 := by
    rcases Int.lt_or_le Y X with h | h
    · exact ⟨Y, X, Or.inr ⟨h, rfl, rfl⟩, by omega, by omega, by omega⟩
    · exact ⟨X, Y, Or.inl ⟨h, rfl, rfl⟩, by omega, by omega, by omega⟩
  have Hx := Sh.at_of (n := 1 + z) (p := x) (by omega) (by omega) (by omega) (by omega)
  have Hy := Sh.at_of (n := 1 + z) (p := y) (by omega) (by omega) (by omega) (by omega)
  have c1 : cl 1 64 (1 + z) = 1 + z := cl_in (by omega) (by omega)
  have c2 : cl 0 1048576 x = x := cl_in (by omega) (by omega)
  have c3 : cl 0 1048576 y = y := cl_in (by omega) (by omega)
  have c4 : cl 0 1048576 1048576 = 1048576 := by decide
  have H : DedAt (1 + z) x y (Sh.dd (1 + z) x) (Sh.dd (1 + z) y) (Sh.ff (1 + z) y) (Sh.ff (1 + z) x) := {
    hd := by rw [c1, c2]
    hg := by rw [c1, c2]
    he := by rw [c1, c3]
    hf := by rw [c1, c3]
    ha := by rw [c1, c4]; unfold Sh.dd; omega
    hz := by rw [c1, c4]; unfold Sh.ff; rw [show (1 + z) * 1048576 % 1048576 = 0 by omega, Int.zero_ediv] }
  exact shareDedicates_core a b c X Y z x y _ _ _ _ w hz z0 (by omega) hX X0 (by omega) hY Y0 (by omega) hxy H Hx.d1 (dd_mono (by omega) hle) Hy.dn Hy.f1

end Go.Proofs.Ytflfhjemblhafaa
