/-
  THE WALKS of package share and of the reference's Workers and MayWork (layer 24): they come to the same plain functions.
-/
import Derived.Test.YtflfhjemblhafaaRefFix2
import Derived.RowKit3
namespace Go.Proofs.Ytflfhjemblhafaa
open Go.RowKit

theorem grown_trans {a b c : World} (h1 : Grown a b) (h2 : Grown b c) : Grown a c :=
  ⟨World.keptBut_trans h1.1 h2.1, fun x => (h2.2.1 x).trans (h1.2.1 x), Nat.le_trans h1.2.2 h2.2.2⟩

/-- A number taken into its bounds. -/
def cl (lo hi x : Int) : Int := if x < lo then lo else if hi < x then hi else x

theorem cl_lo {lo hi x : Int} (h : x < lo) : cl lo hi x = lo := by unfold cl; rw [if_pos h]
theorem cl_hi {lo hi x : Int} (h0 : lo ≤ hi) (h : hi < x) : cl lo hi x = hi := by unfold cl; rw [if_neg (by omega), if_pos h]
theorem cl_in {lo hi x : Int} (h1 : lo ≤ x) (h2 : x ≤ hi) : cl lo hi x = x := by unfold cl; rw [if_neg (by omega), if_neg (by omega)]
theorem cl_range {lo hi : Int} (x : Int) (h : lo ≤ hi) : lo ≤ cl lo hi x ∧ cl lo hi x ≤ hi := by unfold cl; split <;> (try split) <;> omega

set_option maxHeartbeats 1000000 in
theorem bounds_any (ps part : Int) (w : World) : Calls Try.prog 42 #[.int .i64 ps, .int .i64 part] w fun e w' => e = .returned (.tuple #[.int .i64 (cl 1 64 ps), .int .i64 (cl 0 1048576 part)]) ∧ w = w' := by
  rcases (by omega : ps < 1 ∨ (1 ≤ ps ∧ 64 < ps) ∨ (1 ≤ ps ∧ ps ≤ 64)) with h | ⟨h, h'⟩ | ⟨h, h'⟩ <;>
  rcases (by omega : part < 0 ∨ (0 ≤ part ∧ 1048576 < part) ∨ (0 ≤ part ∧ part ≤ 1048576)) with g | ⟨g, g'⟩ | ⟨g, g'⟩
  all_goals
    go_enter Try.func42, Try.ntmps42
    go_wp2_with fail
    go_ret2
    exact ⟨ret_int2 (by unfold cl; repeat' split <;> omega) (by unfold cl; repeat' split <;> omega), rfl⟩

/-- What an int64 holds. -/
def In (a : Int) : Prop := -9223372036854775808 ≤ a ∧ a ≤ 9223372036854775807
theorem in_mk {a : Int} (h1 : -9223372036854775808 ≤ a) (h2 : a ≤ 9223372036854775807) : In a := ⟨h1, h2⟩
theorem in_sat (x : Int) : In (Fx.sat x) := Fx.sat_range x
theorem mul_at (a b r : Int) (w : World) (ha : In a) (hb : In b) (h : Fx.mul a b = r) : Calls Try.prog 32 #[.int .i64 a, .int .i64 b] w fun e w' => e = .returned (.int .i64 r) ∧ w = w' := by
  have := mul_any a b w ha.1 ha.2 hb.1 hb.2
  rw [h] at this; exact this
theorem whole_at (a r : Int) (w : World) (ha : In a) (h : Fx.whole a = r) : Calls Try.prog 26 #[.int .i64 a] w fun e w' => e = .returned (.int .i64 r) ∧ w = w' := by
  have := whole_any a w ha.1 ha.2
  rw [h] at this; exact this
theorem int_at (a r : Int) (w : World) (h : Fx.int a = r) : Calls Try.prog 31 #[.int .i64 a] w fun e w' => e = .returned (.int .i64 r) ∧ w = w' := by
  have := int_any a w
  rw [h] at this; exact this
theorem div_at (a b r : Int) (w : World) (ha : In a) (hb : In b) (h : Fx.div a b = r) : Calls Try.prog 25 #[.int .i64 a, .int .i64 b] w fun e w' => e = .returned (.int .i64 r) ∧ ∃ n, w' = w.drewN n := by
  have := div_any a b w ha.1 ha.2 hb.1 hb.2
  rw [h] at this; exact this
theorem rdiv_at (a b r : Int) (w : World) (ha : In a) (hb : In b) (h : Fx.div a b = r) : Calls Try.prog 44 #[.int .i64 a, .int .i64 b] w fun e w' => e = .returned (.int .i64 r) ∧ ∃ n, w' = w.drewN n := by
  have := rdiv_any a b w ha.1 ha.2 hb.1 hb.2
  rw [h] at this; exact this
theorem rwhole_at (a r : Int) (w : World) (ha : In a) (h : Fx.whole a = r) : Calls Try.prog 45 #[.int .i64 a] w fun e w' => e = .returned (.int .i64 r) ∧ w = w' := by
  have := rwhole_any a w ha.1 ha.2
  rw [h] at this; exact this
theorem rmul_at (a b r : Int) (w : World) (ha : In a) (hb : In b) (h : Fx.mul a b = r) : Calls Try.prog 47 #[.int .i64 a, .int .i64 b] w fun e w' => e = .returned (.int .i64 r) ∧ w = w' := by
  have := rmul_any a b w ha.1 ha.2 hb.1 hb.2
  rw [h] at this; exact this

namespace Sh
/-- Of so many Ps (n) and a part (p): how many work for the collector alone; the part of each other one. -/
def dd (n p : Int) : Int := n * p / 1048576
def ff (n p : Int) : Int := n * p % 1048576 / n

structure At (n p d f : Int) : Prop where
  n1 : 1 ≤ n
  n2 : n ≤ 64
  p1 : 0 ≤ p
  p2 : p ≤ 1048576
  prod0 : 0 ≤ n * p
  prod : n * p ≤ 67108864
  hd : Fx.int (n * p) = d
  d1 : 0 ≤ d
  d2 : d ≤ 64
  hw : Fx.whole d = d * 1048576
  hn : Fx.whole n = n * 1048576
  r1 : 0 ≤ n * p - d * 1048576
  r2 : n * p - d * 1048576 < 1048576
  hf : Fx.div (n * p - d * 1048576) (n * 1048576) = f
  f1 : 0 ≤ f
  f2 : f < 1048576
  sum1 : d * 1048576 + f * n ≤ n * p
  sum2 : n * p - n < d * 1048576 + f * n
  dn : d ≤ n

theorem div_same {r n : Int} (hn1 : 1 ≤ n) (hn2 : n ≤ 64) (r1 : 0 ≤ r) (r2 : r < 1048576) : Fx.div r (n * 1048576) = r / n := by
  unfold Fx.div
  rw [if_neg (by omega), Int.fdiv_eq_ediv_of_nonneg _ (by omega), Int.mul_ediv_mul_of_pos_left _ _ (by omega)]
  have h1 : 0 ≤ r / n := Int.ediv_nonneg r1 (by omega)
  have h2 : r / n ≤ r := Int.ediv_le_self _ r1
  exact Fx.sat_eq (by omega) (by omega)

theorem at_of {n p : Int} (n1 : 1 ≤ n) (n2 : n ≤ 64) (p1 : 0 ≤ p) (p2 : p ≤ 1048576) : At n p (dd n p) (ff n p) := by
  have prod0 : 0 ≤ n * p := Int.mul_nonneg (by omega) p1
  have prod : n * p ≤ 64 * 1048576 := Int.mul_le_mul n2 p2 p1 (by omega)
  have hnp : n * p ≤ n * 1048576 := Int.mul_le_mul_of_nonneg_left p2 (by omega)
  have e1 : n * p - dd n p * 1048576 = n * p % 1048576 := by unfold dd; omega
  have r1 : 0 ≤ n * p % 1048576 := by omega
  have r2 : n * p % 1048576 < 1048576 := by omega
  have f1 : 0 ≤ ff n p := Int.ediv_nonneg r1 (by omega)
  have f2 : ff n p ≤ n * p % 1048576 := Int.ediv_le_self _ r1
  have g := Int.mul_ediv_add_emod (n * p % 1048576) n
  have g1 := Int.emod_nonneg (n * p % 1048576) (show n ≠ 0 by omega)
  have g2 := Int.emod_lt_of_pos (n * p % 1048576) (show 0 < n by omega)
  rw [Int.mul_comm] at g
  have hff : ff n p * n + n * p % 1048576 % n = n * p % 1048576 := g
  refine ⟨n1, n2, p1, p2, prod0, by omega, rfl, by unfold dd; omega, by unfold dd; omega, Fx.sat_eq (by unfold dd; omega) (by unfold dd; omega), Fx.sat_eq (by omega) (by omega), by omega, by omega, ?_, f1, by omega, by omega, by omega, by unfold dd; omega⟩
  rw [e1]
  exact div_same n1 n2 r1 r2
end Sh

set_option maxHeartbeats 1000000 in
theorem workers_core (ps part n p d f : Int) (w : World) (hn : Hid (cl 1 64 ps = n)) (hp : Hid (cl 0 1048576 part = p)) (H : Hid (Sh.At n p d f))
    (n1 : 1 ≤ n) (n2 : n ≤ 64) (p0 : 0 ≤ n * p) (p1 : n * p ≤ 67108864) (d1 : 0 ≤ d) (d2 : d ≤ 64) (r1 : 0 ≤ n * p - d * 1048576) :
    Calls Try.prog 16 #[.int .i64 ps, .int .i64 part] w fun e w' => e = .returned (.tuple #[.int .i64 d, .int .i64 f]) ∧ ∃ k, w' = w.drewN k := by
  have hb : ∀ w, Calls Try.prog 42 #[.int .i64 ps, .int .i64 part] w fun e w' => e = .returned (.tuple #[.int .i64 n, .int .i64 p]) ∧ w = w' := fun w => by
    have := bounds_any ps part w
    rw [hn.out, hp.out] at this
    exact this
  have HB := Lib.hid hb
  clear hb
  go_enter Try.func16, Try.ntmps16
  go_wp2_with fail
  refine (HB.out _).mono ?_; rintro e w' ⟨rfl, rfl⟩
  go_wp2_with fail
  refine (int_at _ _ _ H.out.hd).mono ?_; rintro e w' ⟨rfl, rfl⟩
  go_wp2_with fail
  refine (whole_at _ _ _ (in_mk (by omega) (by omega)) H.out.hw).mono ?_; rintro e w' ⟨rfl, rfl⟩
  go_wp2_with fail
  refine (whole_at _ _ _ (in_mk (by omega) (by omega)) H.out.hn).mono ?_; rintro e w' ⟨rfl, rfl⟩
  go_wp2_with fail
  refine (div_at _ _ _ _ (in_mk (by omega) (by omega)) (in_mk (by omega) (by omega)) H.out.hf).mono ?_; rintro e w' ⟨rfl, k, rfl⟩
  go_wp2_with fail
  go_ret2
  exact ⟨rfl, k, rfl⟩

theorem workers_any (ps part : Int) (w : World) :
    Calls Try.prog 16 #[.int .i64 ps, .int .i64 part] w fun e w' => e = .returned (.tuple #[.int .i64 (Sh.dd (cl 1 64 ps) (cl 0 1048576 part)), .int .i64 (Sh.ff (cl 1 64 ps) (cl 0 1048576 part))]) ∧ ∃ k, w' = w.drewN k := by
  have c1 := cl_range (lo := 1) (hi := 64) ps (by omega)
  have c2 := cl_range (lo := 0) (hi := 1048576) part (by omega)
  have H := Sh.at_of c1.1 c1.2 c2.1 c2.2
  exact workers_core ps part _ _ _ _ w (Lib.hid rfl) (Lib.hid rfl) H H.n1 H.n2 H.prod0 H.prod H.d1 H.d2 H.r1

theorem workers_at (ps part d f : Int) (w : World) (hd : Sh.dd (cl 1 64 ps) (cl 0 1048576 part) = d) (hf : Sh.ff (cl 1 64 ps) (cl 0 1048576 part) = f) :
    Calls Try.prog 16 #[.int .i64 ps, .int .i64 part] w fun e w' => e = .returned (.tuple #[.int .i64 d, .int .i64 f]) ∧ ∃ k, w' = w.drewN k := by
  have := workers_any ps part w
  rw [hd, hf] at this
  exact this

set_option maxHeartbeats 1000000 in
theorem dedicated_at (q ps part d f : Int) (w : World) (hd : Hid (Sh.dd (cl 1 64 ps) (cl 0 1048576 part) = d)) (hf : Hid (Sh.ff (cl 1 64 ps) (cl 0 1048576 part) = f)) :
    Calls Try.prog 19 #[.int .i64 q, .int .i64 ps, .int .i64 part] w fun e w' => e = .returned (.bool (decide (0 ≤ q ∧ q < d))) ∧ ∃ k, w' = w.drewN k := by
  rcases (by omega : q < 0 ∨ (0 ≤ q ∧ q < d) ∨ (0 ≤ q ∧ d ≤ q)) with h | ⟨h, h'⟩ | ⟨h, h'⟩
  · rw [show decide (0 ≤ q ∧ q < d) = false from decide_eq_false (by omega)]
    go_enter Try.func19, Try.ntmps19
    go_wp2_with fail
    refine (workers_at _ _ _ _ _ hd.out hf.out).mono ?_; rintro e w' ⟨rfl, k, rfl⟩
    go_wp2_with fail
    go_ret
    exact ⟨rfl, k, rfl⟩
  · rw [show decide (0 ≤ q ∧ q < d) = true from decide_eq_true (by omega)]
    go_enter Try.func19, Try.ntmps19
    go_wp2_with fail
    refine (workers_at _ _ _ _ _ hd.out hf.out).mono ?_; rintro e w' ⟨rfl, k, rfl⟩
    go_wp2_with fail
    go_ret
    exact ⟨rfl, k, rfl⟩
  · rw [show decide (0 ≤ q ∧ q < d) = false from decide_eq_false (by omega)]
    go_enter Try.func19, Try.ntmps19
    go_wp2_with fail
    refine (workers_at _ _ _ _ _ hd.out hf.out).mono ?_; rintro e w' ⟨rfl, k, rfl⟩
    go_wp2_with fail
    go_ret
    exact ⟨ret_bool (decide_eq_false (by omega)), k, rfl⟩

/-- share.May. -/
def mayW (worked all part : Int) : Bool := decide (Fx.whole (cl 0 1099511627776 worked + 1) ≤ Fx.mul (Fx.whole (cl 0 1099511627776 all + 1)) part)

set_option maxHeartbeats 1000000 in
theorem few_any (n : Int) (w : World) : Calls Try.prog 46 #[.int .i64 n] w fun e w' => e = .returned (.int .i64 (cl 0 1099511627776 n)) ∧ w = w' := by
  rcases (by omega : n < 0 ∨ (0 ≤ n ∧ 1099511627776 < n) ∨ (0 ≤ n ∧ n ≤ 1099511627776)) with h | ⟨h, h'⟩ | ⟨h, h'⟩
  all_goals
    go_enter Try.func46, Try.ntmps46
    go_wp2_with fail
    go_ret
    exact ⟨ret_int (by unfold cl; repeat' split <;> omega), rfl⟩

theorem cl_0 : (0 : Int) ≤ 1099511627776 := by omega

set_option maxHeartbeats 1000000 in
theorem may_core (worked all part x y : Int) (w : World) (hx : Hid (cl 0 1099511627776 worked = x)) (hy : Hid (cl 0 1099511627776 all = y)) (hp : Hid (In part))
    (x1 : 0 ≤ x) (x2 : x ≤ 1099511627776) (y1 : 0 ≤ y) (y2 : y ≤ 1099511627776) :
    Calls Try.prog 20 #[.int .i64 worked, .int .i64 all, .int .i64 part] w fun e w' => e = .returned (.bool (decide (Fx.whole (x + 1) ≤ Fx.mul (Fx.whole (y + 1)) part))) ∧ w = w' := by
  have hfx : ∀ w, Calls Try.prog 46 #[.int .i64 worked] w fun e w' => e = .returned (.int .i64 x) ∧ w = w' := fun w => by
    have := few_any worked w
    rw [hx.out] at this; exact this
  have hfy : ∀ w, Calls Try.prog 46 #[.int .i64 all] w fun e w' => e = .returned (.int .i64 y) ∧ w = w' := fun w => by
    have := few_any all w
    rw [hy.out] at this; exact this
  have HX := Lib.hid hfx
  have HY := Lib.hid hfy
  clear hfx hfy
  go_enter Try.func20, Try.ntmps20
  go_wp2_with fail
  refine (HX.out _).mono ?_; rintro e w' ⟨rfl, rfl⟩
  go_wp2_with fail
  refine (HY.out _).mono ?_; rintro e w' ⟨rfl, rfl⟩
  go_wp2_with fail
  refine (whole_any _ _ (by omega) (by omega)).mono ?_; rintro e w' ⟨rfl, rfl⟩
  go_wp2_with fail
  refine (mul_at _ _ _ _ (Fx.sat_range _) hp.out rfl).mono ?_; rintro e w' ⟨rfl, rfl⟩
  go_wp2_with fail
  refine (whole_any _ _ (by omega) (by omega)).mono ?_; rintro e w' ⟨rfl, rfl⟩
  go_wp2_with fail
  go_ret
  exact ⟨rfl, rfl⟩

theorem may_any (worked all part : Int) (w : World) (hp : In part) :
    Calls Try.prog 20 #[.int .i64 worked, .int .i64 all, .int .i64 part] w fun e w' => e = .returned (.bool (mayW worked all part)) ∧ w = w' := by
  have c1 := cl_range worked cl_0
  have c2 := cl_range all cl_0
  exact may_core worked all part _ _ w (Lib.hid rfl) (Lib.hid rfl) hp c1.1 c1.2 c2.1 c2.2
theorem may_at (worked all part : Int) (b : Bool) (w : World) (hp : In part) (h : mayW worked all part = b) :
    Calls Try.prog 20 #[.int .i64 worked, .int .i64 all, .int .i64 part] w fun e w' => e = .returned (.bool b) ∧ w = w' := by
  have := may_any worked all part w hp
  rw [h] at this; exact this

theorem workers_grown (ps part d f : Int) (w : World) (hd : Sh.dd (cl 1 64 ps) (cl 0 1048576 part) = d) (hf : Sh.ff (cl 1 64 ps) (cl 0 1048576 part) = f) :
    Calls Try.prog 16 #[.int .i64 ps, .int .i64 part] w fun e w' => e = .returned (.tuple #[.int .i64 d, .int .i64 f]) ∧ Grown w w' :=
  (workers_at ps part d f w hd hf).mono fun _ _ ⟨he, _, hw⟩ => ⟨he, by rw [hw]; exact Grown.refl w⟩
theorem dedicated_grown (q ps part d f : Int) (b : Bool) (w : World) (hd : Sh.dd (cl 1 64 ps) (cl 0 1048576 part) = d) (hf : Sh.ff (cl 1 64 ps) (cl 0 1048576 part) = f) (hb : decide (0 ≤ q ∧ q < d) = b) :
    Calls Try.prog 19 #[.int .i64 q, .int .i64 ps, .int .i64 part] w fun e w' => e = .returned (.bool b) ∧ Grown w w' := by
  have := dedicated_at q ps part d f w hd hf
  rw [hb] at this
  exact this.mono fun _ _ ⟨he, _, hw⟩ => ⟨he, by rw [hw]; exact Grown.refl w⟩

set_option maxHeartbeats 1000000 in
theorem told24_any (w : World) : Calls Try.prog 18 #[] w fun e w' => e = .returned (.bool true) ∧ Grown w w' := by
  go_enter Try.func18, Try.ntmps18
  go_wp2_with fail
  refine (workers_grown _ _ 1 0 _ (by decide) (by decide)).mono ?_; rintro e w1 ⟨rfl, g1⟩
  go_wp2_with fail
  refine (workers_grown _ _ 0 262144 _ (by decide) (by decide)).mono ?_; rintro e w2 ⟨rfl, g2⟩
  go_wp2_with fail
  refine (dedicated_grown _ _ _ 1 0 true _ (by decide) (by decide) (by decide)).mono ?_; rintro e w3 ⟨rfl, g3⟩
  go_wp2_with fail
  refine (dedicated_grown _ _ _ 1 0 false _ (by decide) (by decide) (by decide)).mono ?_; rintro e w4 ⟨rfl, g4⟩
  go_wp2_with fail
  refine (may_at _ _ _ true _ (in_mk (by omega) (by omega)) (by decide)).mono ?_; rintro e w' ⟨rfl, rfl⟩
  go_wp2_with fail
  refine (may_at _ _ _ false _ (in_mk (by omega) (by omega)) (by decide)).mono ?_; rintro e w' ⟨rfl, rfl⟩
  go_wp2_with fail
  go_ret
  exact ⟨rfl, grown_trans g1 (grown_trans g2 (grown_trans g3 g4))⟩

end Go.Proofs.Ytflfhjemblhafaa
