/-
  THE WALKS of math.Floor, fix.Float and fix.Real: each comes to the plain function of the text ..Flt3.
-/
import Derived.Test.YtlbefohabphjlaaDiv2
import Derived.Test.YtlbefohabphjlaaFlt3
namespace Go.Proofs.Ytlbefohabphjlaa
open Go.RowKit

/-- The entry that floors a float that is no NaN. -/
theorem toIntegral_run {x : Nat} {d : Ieee.Datum} (h : FloatKind.f64.decode x = d) (hd : ∀ s f, d ≠ .nan s f) (w : World) :
    (Extern.MathFloor.toIntegral "math.archFloor" .down #[.float .f64 x]).run Try.prog w = .ok (.float .f64 (FloatKind.f64.encode (d.integral .down))) w := by
  refine Eq.trans (b := Sem.run Try.prog (Extern.MathFloor.toIntegral.match_1 (fun _ => Sem Value) (FloatKind.f64.decode x) _ _) w) rfl ?_
  rw [h]
  cases d with
  | nan s f => exact absurd rfl (hd s f)
  | infinity s => rfl
  | number s m i => rfl

theorem archFloor_run {x : Nat} {z : Int} (h : Flt.Num x z) (w : World) :
    (callFunc 52 #[.float .f64 x]).run Try.prog w = .ok (.value (.float .f64 (Flt.floorW x))) w := by
  obtain ⟨s, m, i, e, -⟩ := h
  have e' : FloatKind.f64.decode x = .number s m i := e
  rw [run_callFunc_extern (e := Extern.MathFloor.toIntegral "math.archFloor" .down) Try.func52 (by kernel_rfl) (by kernel_rfl) (by kernel_rfl) (by kernel_rfl),
    toIntegral_run e' (by intro s f hc; cases hc)]
  unfold Flt.floorW
  rw [e]
  rfl

set_option maxHeartbeats 400000 in
theorem floor_any {x : Nat} {z : Int} (h : Flt.Num x z) (w : World) : Calls Try.prog 46 #[.float .f64 x] w fun e w' => e = .returned (.float .f64 (Flt.floorW x)) ∧ w = w' := by
  have hr := archFloor_run h
  clear h
  go_enter Try.func46, Try.ntmps46
  go_wp2_with fail
  go_ret
  exact ⟨rfl, rfl⟩

theorem conv_whole {x : Nat} {n : Int} (h : Flt.Num x (n * (Flt.Q : Int))) (h1 : -9223372036854775808 ≤ n) (h2 : n ≤ 9223372036854775807) : floatToIntVal .f64 x .i64 = some n := by
  unfold floatToIntVal
  have e : (FloatKind.f64.decode x).toInt .zero = some n := Flt.whole_toInt h
  rw [e]
  simp only
  rw [if_pos]
  exact ⟨h1, h2⟩

/-! What the code's comparisons come to. -/
theorem self_ne {x : Nat} {z : Int} (h : Flt.Num x z) : (FloatKind.f64.format.order x x != some .eq) = false := by
  have e : FloatKind.f64.format.order x x = some (compare z z) := Flt.order_num h h
  rw [e, Flt.cmp_eq]; rfl

set_option maxHeartbeats 400000 in
theorem float_nan {x : Nat} {s : Bool} {f : Nat} (h : Ieee.double.read x = .nan s f) (w : World) : Calls Try.prog 25 #[.float .f64 x] w fun e w' => e = .returned (.int .i64 (Flt.flt x)) ∧ w = w' := by
  have e : Flt.flt x = 0 := by unfold Flt.flt; rw [h]
  have c0 : (FloatKind.f64.format.order x x != some .eq) = true := by
    have : FloatKind.f64.format.order x x = none := Flt.order_nan_left h
    rw [this]; rfl
  rw [e]
  clear e h
  go_enter Try.func25, Try.ntmps25
  go_wp2_with fail
  go_ret
  exact ⟨rfl, rfl⟩

set_option maxHeartbeats 400000 in
theorem float_hi {x : Nat} (w : World) (c0 : (FloatKind.f64.format.order x x != some .eq) = false)
    (c1 : (FloatKind.f64.format.order x 4800837202776948736 == some .gt || FloatKind.f64.format.order x 4800837202776948736 == some .eq) = true) :
    Calls Try.prog 25 #[.float .f64 x] w fun e w' => e = .returned (.int .i64 9223372036854775807) ∧ w = w' := by
  go_enter Try.func25, Try.ntmps25
  go_wp2_with fail
  go_ret
  exact ⟨rfl, rfl⟩

set_option maxHeartbeats 400000 in
theorem float_lo {x : Nat} (w : World) (c0 : (FloatKind.f64.format.order x x != some .eq) = false)
    (c1 : (FloatKind.f64.format.order x 4800837202776948736 == some .gt || FloatKind.f64.format.order x 4800837202776948736 == some .eq) = false)
    (c2 : (FloatKind.f64.format.order x 14024209239631724544 == some .lt || FloatKind.f64.format.order x 14024209239631724544 == some .eq) = true) :
    Calls Try.prog 25 #[.float .f64 x] w fun e w' => e = .returned (.int .i64 (-9223372036854775808)) ∧ w = w' := by
  go_enter Try.func25, Try.ntmps25
  go_wp2_with fail
  go_ret
  exact ⟨rfl, rfl⟩

set_option maxHeartbeats 400000 in
theorem float_mid {x y : Nat} {n z : Int} (w : World) (c0 : (FloatKind.f64.format.order x x != some .eq) = false)
    (c1 : (FloatKind.f64.format.order x 4800837202776948736 == some .gt || FloatKind.f64.format.order x 4800837202776948736 == some .eq) = false)
    (c2 : (FloatKind.f64.format.order x 14024209239631724544 == some .lt || FloatKind.f64.format.order x 14024209239631724544 == some .eq) = false)
    (hm : floatBits .mul .f64 x 4697254411347427328 = some y) (hy : Flt.Num y z) (hc : floatToIntVal .f64 (Flt.floorW y) .i64 = some n) :
    Calls Try.prog 25 #[.float .f64 x] w fun e w' => e = .returned (.int .i64 n) ∧ w = w' := by
  have hmul := fun w => run_float_arith (P := Try.prog) w .mul 28 .f64 x 4697254411347427328 y hm
  have hcon := fun w => run_convert_float_int (P := Try.prog) w 28 2 .f64 .i64 (Flt.floorW y) n (by rw [Try.underlying28]; rfl) Try.underlying2 hc
  have H := Lib.hid hm
  have H2 := Lib.hid hc
  clear hm hc
  go_enter Try.func25, Try.ntmps25
  go_wp2_with fail
  refine (floor_any hy _).mono ?_; rintro e w' ⟨rfl, rfl⟩
  go_wp2_with fail
  go_ret
  exact ⟨rfl, rfl⟩

theorem float_any (x : Nat) (w : World) : Calls Try.prog 25 #[.float .f64 x] w fun e w' => e = .returned (.int .i64 (Flt.flt x)) ∧ w = w' := by
  rcases Flt.read_cases x with ⟨z, h⟩ | ⟨s, h⟩ | ⟨s, f, h⟩
  · rw [Flt.flt_num h]
    have c1 : (FloatKind.f64.format.order x 4800837202776948736 == some .gt || FloatKind.f64.format.order x 4800837202776948736 == some .eq) = decide (8796093022208 * (Flt.Q : Int) ≤ z) := Flt.cmp_ge h Flt.num_2p43
    have c2 : (FloatKind.f64.format.order x 14024209239631724544 == some .lt || FloatKind.f64.format.order x 14024209239631724544 == some .eq) = decide (z ≤ -(8796093022208 * (Flt.Q : Int))) := Flt.cmp_le h Flt.num_m2p43
    by_cases h1 : 8796093022208 * (Flt.Q : Int) ≤ z
    · rw [decide_eq_true h1] at c1
      have e : Flt.fltZ z = 9223372036854775807 := by unfold Flt.fltZ; rw [if_pos h1]
      rw [e]
      exact float_hi w (self_ne h) c1
    · rw [decide_eq_false h1] at c1
      by_cases h2 : z ≤ -(8796093022208 * (Flt.Q : Int))
      · rw [decide_eq_true h2] at c2
        have e : Flt.fltZ z = -9223372036854775808 := by unfold Flt.fltZ; rw [if_neg h1, if_pos h2]
        rw [e]
        exact float_lo w (self_ne h) c1 c2
      · rw [decide_eq_false h2] at c2
        obtain ⟨y, hy1, hy2, e, e1, e2⟩ := Flt.flt_mid h (by omega) (by omega)
        rw [e]
        exact float_mid w (self_ne h) c1 c2 hy1 hy2 (conv_whole (Flt.floor_num hy2) e1 e2)
  · have c0 : (FloatKind.f64.format.order x x != some .eq) = false := by
      have : FloatKind.f64.format.order x x = some .eq := Flt.order_inf_self h
      rw [this]; rfl
    have e1 : FloatKind.f64.format.order x 4800837202776948736 = some (if s then .lt else .gt) := Flt.order_inf_num h Flt.num_2p43
    have e2 : FloatKind.f64.format.order x 14024209239631724544 = some (if s then .lt else .gt) := Flt.order_inf_num h Flt.num_m2p43
    cases s with
    | false =>
      have e : Flt.flt x = 9223372036854775807 := by unfold Flt.flt; rw [h]; rfl
      rw [e]
      exact float_hi w c0 (by rw [e1]; rfl)
    | true =>
      have e : Flt.flt x = -9223372036854775808 := by unfold Flt.flt; rw [h]; rfl
      rw [e]
      exact float_lo w c0 (by rw [e1]; rfl) (by rw [e2]; rfl)
  · exact float_nan h w

set_option maxHeartbeats 400000 in
theorem real_any {n : Int} (w : World) (hd : floatBits .quo .f64 (floatOfInt .f64 n) 4697254411347427328 = some (Flt.real n)) :
    Calls Try.prog 27 #[.int .i64 n] w fun e w' => e = .returned (.float .f64 (Flt.real n)) ∧ w = w' := by
  have hq := fun w => run_float_arith (P := Try.prog) w .quo 28 .f64 (floatOfInt .f64 n) 4697254411347427328 (Flt.real n) hd
  have hcon := fun w => run_convert_int_float (P := Try.prog) w 2 28 .i64 .f64 n (by rw [Try.underlying2]; rfl) Try.underlying28
  clear hd
  go_enter Try.func27, Try.ntmps27
  go_wp2_with fail
  go_ret
  exact ⟨rfl, rfl⟩

end Go.Proofs.Ytlbefohabphjlaa
