/-
  THE WALK of treadmilllaw2.ConfOrder, and why it comes to true: answers lie within their bounds, and a greater float has no lesser answer.
-/
import Derived.Test.YtlbefohabphjlaaConf2
namespace Go.Proofs.Ytlbefohabphjlaa
open Go.RowKit

namespace Flt
open Ieee

theorem pct_range (x : Nat) : 0 ≤ (pct x).1 ∧ (pct x).1 ≤ 10000 := by
  rcases read_cases x with ⟨z, h⟩ | ⟨s, h⟩ | ⟨s, f, h⟩
  · rw [pct_num h]
    by_cases hz : z < 0
    · rw [if_pos hz]; exact ⟨by decide, by decide⟩
    · rw [if_neg hz]; exact pctZ_range (by omega)
  · rw [pct_inf h]; exact ⟨by decide, by decide⟩
  · rw [pct_nan h]; exact ⟨by decide, by decide⟩
theorem pct_off (x : Nat) (h : (pct x).2 = false) : (pct x).1 = 0 := by
  rcases read_cases x with ⟨z, h1⟩ | ⟨s, h1⟩ | ⟨s, f, h1⟩
  · rw [pct_num h1] at h ⊢
    by_cases hz : z < 0
    · rw [if_pos hz]
    · rw [if_neg hz] at h; cases h
  · rw [pct_inf h1]
  · rw [pct_nan h1] at h; cases h
theorem prtZ_range (z : Int) : 16384 ≤ prtZ z ∧ prtZ z ≤ 1048576 := by
  have hQ := Q_pos
  unfold prtZ
  by_cases h1 : 64 * z < (Q : Int)
  · rw [if_pos h1]; omega
  · by_cases h2 : (Q : Int) ≤ z
    · rw [if_neg h1, if_pos h2]; omega
    · rw [if_neg h1, if_neg h2]
      constructor
      · rw [Int.le_ediv_iff_mul_le (by omega)]; omega
      · have := Int.ediv_lt_of_lt_mul (a := z * 1048576) (b := 1048576) (c := (Q : Int)) (by omega) (by omega)
        omega
theorem prt_range (x : Nat) : 16384 ≤ prt x ∧ prt x ≤ 1048576 := by
  unfold prt
  split
  · omega
  · split <;> omega
  · exact prtZ_range _
theorem prtZ_mono {z t : Int} (h : z ≤ t) : prtZ z ≤ prtZ t := by
  have hQ := Q_pos
  have r1 := prtZ_range z
  have r2 := prtZ_range t
  by_cases h1 : 64 * z < (Q : Int)
  · have : prtZ z = 16384 := by unfold prtZ; rw [if_pos h1]
    omega
  · by_cases h2 : (Q : Int) ≤ t
    · have : prtZ t = 1048576 := by unfold prtZ; rw [if_neg (by omega), if_pos h2]
      omega
    · unfold prtZ
      rw [if_neg h1, if_neg (by omega), if_neg (by omega), if_neg h2]
      exact Int.ediv_le_ediv (by omega) (by omega)
theorem pctZ_mono {z t : Int} (h0 : 0 ≤ z) (h : z ≤ t) : pctZ z ≤ pctZ t := by
  have hQ := Q_pos
  have r1 := pctZ_range h0
  by_cases h2 : t < 10000 * (Q : Int)
  · unfold pctZ
    rw [if_pos (by omega), if_pos h2]
    exact Int.ediv_le_ediv (by omega) h
  · have : pctZ t = 10000 := by unfold pctZ; rw [if_neg h2]
    omega

/-- Is a float at most another? -/
def leB (x y : Nat) : Bool := double.order x y == some .lt || double.order x y == some .eq

theorem order_nan_right {x y : Nat} {s : Bool} {f : Nat} (h : double.read y = .nan s f) : double.order x y = none := by
  unfold Format.order; rw [h]; cases double.read x <;> rfl

theorem le_pct {x y : Nat} (h : leB x y = true) (h1 : (pct x).2 = true) (h2 : (pct y).2 = true) : (pct x).1 ≤ (pct y).1 := by
  rcases read_cases x with ⟨z, a1⟩ | ⟨s, a1⟩ | ⟨s, f, a1⟩
  · rcases read_cases y with ⟨t, b1⟩ | ⟨s, b1⟩ | ⟨s, f, b1⟩
    · have hle : z ≤ t := by
        have e := cmp_le a1 b1
        unfold leB at h
        rw [h] at e
        exact of_decide_eq_true e.symm
      rw [pct_num a1] at h1 ⊢
      rw [pct_num b1] at h2 ⊢
      by_cases hz : z < 0
      · rw [if_pos hz] at h1; cases h1
      · by_cases ht : t < 0
        · omega
        · rw [if_neg hz, if_neg ht]; exact pctZ_mono (by omega) hle
    · rw [pct_inf b1] at h2; cases h2
    · unfold leB at h; rw [order_nan_right b1] at h; cases h
  · rw [pct_inf a1] at h1; cases h1
  · unfold leB at h; rw [order_nan_left a1] at h; cases h

theorem prt_inf {x : Nat} {s : Bool} (h : double.read x = .infinity s) : prt x = if s then 16384 else 1048576 := by unfold prt; rw [h]

theorem le_prt {x y : Nat} (h : leB x y = true) : prt x ≤ prt y := by
  have rx := prt_range x
  have ry := prt_range y
  rcases read_cases x with ⟨z, a1⟩ | ⟨s, a1⟩ | ⟨s, f, a1⟩
  · rcases read_cases y with ⟨t, b1⟩ | ⟨s, b1⟩ | ⟨s, f, b1⟩
    · have hle : z ≤ t := by
        have e := cmp_le a1 b1
        unfold leB at h
        rw [h] at e
        exact of_decide_eq_true e.symm
      rw [prt_num a1, prt_num b1]
      exact prtZ_mono hle
    · cases s with
      | false => rw [prt_inf b1]; simpa using rx.2
      | true =>
        obtain ⟨s', m, i, e, -⟩ := a1
        unfold leB Format.order at h
        rw [e, b1] at h
        cases h
    · unfold leB at h; rw [order_nan_right b1] at h; cases h
  · cases s with
    | true => rw [prt_inf a1]; simpa using ry.1
    | false =>
      unfold leB Format.order at h
      rw [a1] at h
      cases hy : double.read y with
      | number s' m i => rw [hy] at h; cases h
      | infinity s' =>
        cases s' with
        | false => rw [prt_inf a1, prt_inf hy]; omega
        | true => rw [hy] at h; cases h
      | nan s' f => rw [hy] at h; cases h
  · unfold leB at h; rw [order_nan_left a1] at h; cases h

theorem self_nan {x : Nat} (h : (double.order x x == some .eq) = false) : pct x = (100, true) ∧ prt x = 262144 := by
  rcases read_cases x with ⟨z, a1⟩ | ⟨s, a1⟩ | ⟨s, f, a1⟩
  · rw [order_num a1 a1, cmp_eq] at h; cases h
  · rw [order_inf_self a1] at h; cases h
  · exact ⟨pct_nan a1, by unfold prt; rw [a1]⟩
end Flt

set_option maxHeartbeats 2000000 in
theorem confOrder_walk (x y : Nat) (w : World) : Calls Try.prog 12 #[.float .f64 x, .float .f64 y] w fun e w' => e = .returned (.bool true) ∧ Grown w w' := by
  obtain ⟨a, on, hx⟩ : ∃ a on, Flt.pct x = (a, on) := ⟨_, _, rfl⟩
  obtain ⟨b, is, hy⟩ : ∃ b is, Flt.pct y = (b, is) := ⟨_, _, rfl⟩
  obtain ⟨p, hp⟩ : ∃ p, Flt.prt x = p := ⟨_, rfl⟩
  obtain ⟨q, hq⟩ : ∃ q, Flt.prt y = q := ⟨_, rfl⟩
  have r1 := Flt.pct_range x
  have r2 := Flt.prt_range x
  have r3 := Flt.pct_off x
  have r4 : Flt.leB x y = true → (Flt.pct x).2 = true → (Flt.pct y).2 = true → (Flt.pct x).1 ≤ (Flt.pct y).1 := Flt.le_pct
  have r5 : Flt.leB x y = true → Flt.prt x ≤ Flt.prt y := Flt.le_prt
  have r6 : (Ieee.double.order x x == some .eq) = false → Flt.pct x = (100, true) ∧ Flt.prt x = 262144 := Flt.self_nan
  rw [hx] at r1 r3 r4 r6
  rw [hy] at r4
  rw [hp] at r2 r5 r6
  rw [hq] at r5
  simp only at r1 r3 r4
  obtain ⟨r11, r12⟩ := r1
  obtain ⟨r21, r22⟩ := r2
  have HX := percent_at x a on hx
  have HY := percent_at y b is hy
  have HP := part_at x p hp
  have HQ := part_at y q hq
  clear hx hy hp hq
  obtain ⟨le, hle⟩ : ∃ le, Flt.leB x y = le := ⟨_, rfl⟩
  obtain ⟨se, hse⟩ : ∃ se, (Ieee.double.order x x == some .eq) = se := ⟨_, rfl⟩
  have c1 : (FloatKind.f64.format.order x y == some .lt || FloatKind.f64.format.order x y == some .eq) = le := hle
  have c2 : (FloatKind.f64.format.order x x == some .eq) = se := hse
  rw [hle] at r4 r5
  rw [hse] at r6
  clear hle hse
  have HX := Lib.hid HX
  have HY := Lib.hid HY
  have HP := Lib.hid HP
  have HQ := Lib.hid HQ
  rename_i HX' HY' HP' HQ'
  clear HX' HY' HP' HQ'
  cases on <;> cases is <;> cases le <;> cases se
  all_goals try (exfalso; exact Bool.noConfusion (show false = true from congrArg Prod.snd (r6 rfl).1))
  all_goals
    first | (obtain rfl := r3 rfl; clear r3) | clear r3
    first | replace r4 := r4 rfl rfl rfl | clear r4
    first | replace r5 := r5 rfl | clear r5
    first | (obtain ⟨e1, rfl⟩ := r6 rfl; obtain rfl := congrArg Prod.fst e1; clear r6 e1) | clear r6
    go_enter Try.func12, Try.ntmps12
    go_wp2_with fail
    refine (HX.out _).mono ?_; rintro e w' ⟨rfl, rfl⟩
    go_wp2_with fail
    refine (HY.out _).mono ?_; rintro e w' ⟨rfl, rfl⟩
    go_wp2_with fail
    refine (HP.out _).mono ?_; rintro e w' ⟨rfl, rfl⟩
    go_wp2_with fail
    refine (HQ.out _).mono ?_; rintro e w' ⟨rfl, rfl⟩
    go_wp2_with fail
    refine (told2_any _).mono ?_; rintro e w1 ⟨rfl, g1⟩
    go_wp2_with fail
    go_ret
    exact ⟨rfl, g1⟩

end Go.Proofs.Ytlbefohabphjlaa
