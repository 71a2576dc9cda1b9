/-
  THE WALK of treadmilllaw24.ShareWorkers: share's Workers, Dedicated and May are the reference's.
-/
import Derived.Test.YtflfhjemblhafaaShare
namespace Go.Proofs.Ytflfhjemblhafaa
open Go.RowKit

set_option maxHeartbeats 1000000 in
theorem clamp_any (x lo hi : Int) (w : World) (hh : lo ≤ hi) : Calls Try.prog 43 #[.int .i64 x, .int .i64 lo, .int .i64 hi] w fun e w' => e = .returned (.int .i64 (cl lo hi x)) ∧ w = w' := by
  rcases (by omega : x < lo ∨ (lo ≤ x ∧ hi < x) ∨ (lo ≤ x ∧ x ≤ hi)) with h | ⟨h, h'⟩ | ⟨h, h'⟩
  all_goals
    go_enter Try.func43, Try.ntmps43
    go_wp2_with fail
    go_ret
    exact ⟨ret_int (by unfold cl; repeat' split <;> omega), rfl⟩

theorem clamp_at (x lo hi r : Int) (w : World) (hh : lo ≤ hi) (h : cl lo hi x = r) : Calls Try.prog 43 #[.int .i64 x, .int .i64 lo, .int .i64 hi] w fun e w' => e = .returned (.int .i64 r) ∧ w = w' := by
  have := clamp_any x lo hi w hh
  rw [h] at this; exact this

set_option maxHeartbeats 1000000 in
theorem rworkers_core (ps part n p d f : Int) (w : World) (hn : Hid (cl 1 64 ps = n)) (hp : Hid (cl 0 1048576 part = p)) (H : Hid (Sh.At n p d f))
    (n1 : 1 ≤ n) (n2 : n ≤ 64) (p0 : 0 ≤ n * p) (p1 : n * p ≤ 67108864) (d1 : 0 ≤ d) (d2 : d ≤ 64) (r1 : 0 ≤ n * p - d * 1048576) (hd : n * p / 1048576 = d) :
    Calls Try.prog 17 #[.int .i64 ps, .int .i64 part] w fun e w' => e = .returned (.tuple #[.int .i64 d, .int .i64 f]) ∧ ∃ k, w' = w.drewN k := by
  go_enter Try.func17, Try.ntmps17
  go_wp2_with fail
  refine (clamp_at _ _ _ _ _ (by omega) hn.out).mono ?_; rintro e w' ⟨rfl, rfl⟩
  go_wp2_with fail
  refine (clamp_at _ _ _ _ _ (by omega) hp.out).mono ?_; rintro e w' ⟨rfl, rfl⟩
  go_wp2_with fail
  refine (rwhole_at _ _ _ (in_mk (by omega) (by omega)) H.out.hn).mono ?_; rintro e w' ⟨rfl, rfl⟩
  go_wp2_with fail
  refine (rdiv_at _ _ _ _ (in_mk (by omega) (by omega)) (in_mk (by omega) (by omega)) H.out.hf).mono ?_; rintro e w' ⟨rfl, k, rfl⟩
  go_wp2_with fail
  go_ret2
  exact ⟨rfl, k, rfl⟩

theorem rworkers_grown (ps part d f : Int) (w : World) (hd : Sh.dd (cl 1 64 ps) (cl 0 1048576 part) = d) (hf : Sh.ff (cl 1 64 ps) (cl 0 1048576 part) = f) :
    Calls Try.prog 17 #[.int .i64 ps, .int .i64 part] w fun e w' => e = .returned (.tuple #[.int .i64 d, .int .i64 f]) ∧ Grown w w' := by
  have c1 := cl_range (lo := 1) (hi := 64) ps (by omega)
  have c2 := cl_range (lo := 0) (hi := 1048576) part (by omega)
  have H := Sh.at_of c1.1 c1.2 c2.1 c2.2
  have := rworkers_core ps part _ _ _ _ w (Lib.hid rfl) (Lib.hid rfl) H H.n1 H.n2 H.prod0 H.prod H.d1 H.d2 H.r1 rfl
  rw [hd, hf] at this
  exact this.mono fun _ _ ⟨he, _, hw⟩ => ⟨he, by rw [hw]; exact Grown.refl w⟩

set_option maxHeartbeats 1000000 in
theorem rmay_core (worked all part x y : Int) (w : World) (hx : Hid (cl 0 1099511627776 worked = x)) (hy : Hid (cl 0 1099511627776 all = y)) (hp : Hid (In part))
    (x1 : 0 ≤ x) (x2 : x ≤ 1099511627776) (y1 : 0 ≤ y) (y2 : y ≤ 1099511627776) :
    Calls Try.prog 21 #[.int .i64 worked, .int .i64 all, .int .i64 part] w fun e w' => e = .returned (.bool (decide (Fx.whole (x + 1) ≤ Fx.mul (Fx.whole (y + 1)) part))) ∧ w = w' := by
  go_enter Try.func21, Try.ntmps21
  go_wp2_with fail
  refine (clamp_at _ _ _ _ _ (by omega) hx.out).mono ?_; rintro e w' ⟨rfl, rfl⟩
  go_wp2_with fail
  refine (clamp_at _ _ _ _ _ (by omega) hy.out).mono ?_; rintro e w' ⟨rfl, rfl⟩
  go_wp2_with fail
  refine (rwhole_any _ _ (by omega) (by omega)).mono ?_; rintro e w' ⟨rfl, rfl⟩
  go_wp2_with fail
  refine (rmul_at _ _ _ _ (Fx.sat_range _) hp.out rfl).mono ?_; rintro e w' ⟨rfl, rfl⟩
  go_wp2_with fail
  refine (rwhole_any _ _ (by omega) (by omega)).mono ?_; rintro e w' ⟨rfl, rfl⟩
  go_wp2_with fail
  go_ret
  exact ⟨rfl, rfl⟩

theorem rmay_any (worked all part : Int) (w : World) (hp : In part) :
    Calls Try.prog 21 #[.int .i64 worked, .int .i64 all, .int .i64 part] w fun e w' => e = .returned (.bool (mayW worked all part)) ∧ w = w' := by
  have c1 := cl_range worked cl_0
  have c2 := cl_range all cl_0
  exact rmay_core worked all part _ _ w (Lib.hid rfl) (Lib.hid rfl) hp c1.1 c1.2 c2.1 c2.2

set_option maxHeartbeats 2000000 in
theorem shareWorkers_core (ps part q worked all d f : Int) (w : World) (hp : Hid (In part)) (hd : Hid (Sh.dd (cl 1 64 ps) (cl 0 1048576 part) = d)) (hf : Hid (Sh.ff (cl 1 64 ps) (cl 0 1048576 part) = f)) :
    Calls Try.prog 3 #[.int .i64 ps, .int .i64 part, .int .i64 q, .int .i64 worked, .int .i64 all] w fun e w' => e = .returned (.bool true) ∧ Grown w w' := by
  rcases (by omega : q < 0 ∨ (0 ≤ q ∧ q < d) ∨ (0 ≤ q ∧ d ≤ q)) with h | ⟨h, h'⟩ | ⟨h, h'⟩
  · have hb : Hid (decide (0 ≤ q ∧ q < d) = false) := decide_eq_false (by omega)
    go_enter Try.func3, Try.ntmps3
    go_wp2_with fail
    refine (workers_grown _ _ _ _ _ hd.out hf.out).mono ?_; rintro e w1 ⟨rfl, g1⟩
    go_wp2_with fail
    refine (rworkers_grown _ _ _ _ _ hd.out hf.out).mono ?_; rintro e w2 ⟨rfl, g2⟩
    go_wp2_with fail
    refine (told24_any _).mono ?_; rintro e w3 ⟨rfl, g3⟩
    go_wp2_with fail
    refine (dedicated_grown _ _ _ _ _ _ _ hd.out hf.out hb.out).mono ?_; rintro e w4 ⟨rfl, g4⟩
    go_wp2_with fail
    refine (may_any _ _ _ _ hp.out).mono ?_; rintro e w' ⟨rfl, rfl⟩
    go_wp2_with fail
    refine (rmay_any _ _ _ _ hp.out).mono ?_; rintro e w' ⟨rfl, rfl⟩
    go_wp2_with fail
    go_ret
    exact ⟨rfl, grown_trans g1 (grown_trans g2 (grown_trans g3 g4))⟩
  · have hb : Hid (decide (0 ≤ q ∧ q < d) = true) := decide_eq_true (by omega)
    go_enter Try.func3, Try.ntmps3
    go_wp2_with fail
    refine (workers_grown _ _ _ _ _ hd.out hf.out).mono ?_; rintro e w1 ⟨rfl, g1⟩
    go_wp2_with fail
    refine (rworkers_grown _ _ _ _ _ hd.out hf.out).mono ?_; rintro e w2 ⟨rfl, g2⟩
    go_wp2_with fail
    refine (told24_any _).mono ?_; rintro e w3 ⟨rfl, g3⟩
    go_wp2_with fail
    refine (dedicated_grown _ _ _ _ _ _ _ hd.out hf.out hb.out).mono ?_; rintro e w4 ⟨rfl, g4⟩
    go_wp2_with fail
    refine (may_any _ _ _ _ hp.out).mono ?_; rintro e w' ⟨rfl, rfl⟩
    go_wp2_with fail
    refine (rmay_any _ _ _ _ hp.out).mono ?_; rintro e w' ⟨rfl, rfl⟩
    go_wp2_with fail
    go_ret
    exact ⟨rfl, grown_trans g1 (grown_trans g2 (grown_trans g3 g4))⟩
  · have hb : Hid (decide (0 ≤ q ∧ q < d) = false) := decide_eq_false (by omega)
    go_enter Try.func3, Try.ntmps3
    go_wp2_with fail
    refine (workers_grown _ _ _ _ _ hd.out hf.out).mono ?_; rintro e w1 ⟨rfl, g1⟩
    go_wp2_with fail
    refine (rworkers_grown _ _ _ _ _ hd.out hf.out).mono ?_; rintro e w2 ⟨rfl, g2⟩
    go_wp2_with fail
    refine (told24_any _).mono ?_; rintro e w3 ⟨rfl, g3⟩
    go_wp2_with fail
    refine (dedicated_grown _ _ _ _ _ _ _ hd.out hf.out hb.out).mono ?_; rintro e w4 ⟨rfl, g4⟩
    go_wp2_with fail
    refine (may_any _ _ _ _ hp.out).mono ?_; rintro e w' ⟨rfl, rfl⟩
    go_wp2_with fail
    refine (rmay_any _ _ _ _ hp.out).mono ?_; rintro e w' ⟨rfl, rfl⟩
    go_wp2_with fail
    go_ret
    exact ⟨ret_bool (by rw [decide_eq_false (show ¬ q < d by omega)]; rfl), grown_trans g1 (grown_trans g2 (grown_trans g3 g4))⟩

theorem shareWorkers_walk (ps part q worked all : Int) (w : World) (_a1 : -9223372036854775808 ≤ ps) (_a2 : ps ≤ 9223372036854775807) (b1 : -9223372036854775808 ≤ part) (b2 : part ≤ 9223372036854775807)
    (_c1 : -9223372036854775808 ≤ q) (_c2 : q ≤ 9223372036854775807) (_d1 : -9223372036854775808 ≤ worked) (_d2 : worked ≤ 9223372036854775807) (_e1 : -9223372036854775808 ≤ all) (_e2 : all ≤ 9223372036854775807) :
    Calls Try.prog 3 #[.int .i64 ps, .int .i64 part, .int .i64 q, .int .i64 worked, .int .i64 all] w fun e w' => e = .returned (.bool true) ∧ Grown w w' :=
  shareWorkers_core ps part q worked all _ _ w (in_mk b1 b2) (Lib.hid rfl) (Lib.hid rfl)

end Go.Proofs.Ytflfhjemblhafaa
