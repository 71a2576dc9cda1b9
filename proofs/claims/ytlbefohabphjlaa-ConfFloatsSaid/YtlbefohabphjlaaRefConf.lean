/-
  THE WALKS of the reference's Percent, Part and May (layer 2): they come to the same plain functions.
-/
import Derived.Test.YtlbefohabphjlaaConf2
import Derived.Test.YtlbefohabphjlaaRefFloat
namespace Go.Proofs.Ytlbefohabphjlaa
open Go.RowKit

theorem sub_self_num {x : Nat} {z : Int} (h : Flt.Num x z) : floatBits .sub .f64 x x = some 0 := by
  obtain ⟨s, m, i, e, -, -, -, -⟩ := h
  show Ieee.double.sub x x = some 0
  unfold Ieee.Format.sub
  rw [e]
  have hz : ∀ k, Ieee.signed s m k + Ieee.signed (!s) m k = 0 := fun k => by cases s <;> simp [Ieee.signed] <;> omega
  simp only [Ieee.Datum.opposite, Ieee.Datum.sum, hz]
  rw [if_pos trivial, Bool.and_not_self]
  show some (Ieee.double.nearest false 0 (min i i)) = some 0
  unfold Ieee.Format.nearest
  rw [if_pos rfl]
  rfl

theorem sub_self_inf {x : Nat} {s : Bool} (h : Ieee.double.read x = .infinity s) : Ieee.double.sub x x = none := by
  unfold Ieee.Format.sub
  rw [h]
  cases s <;> rfl

set_option maxHeartbeats 400000 in
theorem rpct_nan_walk {x : Nat} (w : World) (c0 : (FloatKind.f64.format.order x x != some .eq) = true) :
    Calls Try.prog 37 #[.float .f64 x] w fun e w' => e = .returned (.tuple #[.int .i64 100, .bool true]) ∧ ∃ n, w' = w.drewN n := by
  go_enter Try.func37, Try.ntmps37
  go_wp2_with fail
  go_ret2
  exact ⟨rfl, 0, rfl⟩

set_option maxHeartbeats 400000 in
theorem rpct_less_walk {x : Nat} (w : World) (c0 : (FloatKind.f64.format.order x x != some .eq) = false) (c1 : (FloatKind.f64.format.order x 0 == some .lt) = true) :
    Calls Try.prog 37 #[.float .f64 x] w fun e w' => e = .returned (.tuple #[.int .i64 0, .bool false]) ∧ ∃ n, w' = w.drewN n := by
  go_enter Try.func37, Try.ntmps37
  go_wp2_with fail
  go_ret2
  exact ⟨rfl, 0, rfl⟩

set_option maxHeartbeats 400000 in
theorem rpct_inf_walk {x y : Nat} (w : World) (c0 : (FloatKind.f64.format.order x x != some .eq) = false) (c1 : (FloatKind.f64.format.order x 0 == some .lt) = false)
    (hs : (binOp .sub 28 (.float .f64 x) (.float .f64 x)).run Try.prog w = .ok (.float .f64 y) w.drew) (c2 : (FloatKind.f64.format.order y 0 != some .eq) = true) :
    Calls Try.prog 37 #[.float .f64 x] w fun e w' => e = .returned (.tuple #[.int .i64 0, .bool false]) ∧ ∃ n, w' = w.drewN n := by
  go_enter Try.func37, Try.ntmps37
  go_wp2_with fail
  go_ret2
  exact ⟨rfl, 1, rfl⟩

set_option maxHeartbeats 400000 in
theorem rpct_big_walk {x : Nat} (w : World) (c0 : (FloatKind.f64.format.order x x != some .eq) = false) (c1 : (FloatKind.f64.format.order x 0 == some .lt) = false)
    (hs : ∀ w, (binOp .sub 28 (.float .f64 x) (.float .f64 x)).run Try.prog w = .ok (.float .f64 0) w) (c2 : (FloatKind.f64.format.order 0 0 != some .eq) = false)
    (c3 : (FloatKind.f64.format.order x 4666723172467343360 == some .gt || FloatKind.f64.format.order x 4666723172467343360 == some .eq) = true) :
    Calls Try.prog 37 #[.float .f64 x] w fun e w' => e = .returned (.tuple #[.int .i64 10000, .bool true]) ∧ ∃ n, w' = w.drewN n := by
  go_enter Try.func37, Try.ntmps37
  go_wp2_with fail
  go_ret2
  exact ⟨rfl, 0, rfl⟩

set_option maxHeartbeats 400000 in
theorem rpct_on_walk {x : Nat} {n : Int} (w : World) (c0 : (FloatKind.f64.format.order x x != some .eq) = false) (c1 : (FloatKind.f64.format.order x 0 == some .lt) = false)
    (hs : ∀ w, (binOp .sub 28 (.float .f64 x) (.float .f64 x)).run Try.prog w = .ok (.float .f64 0) w) (c2 : (FloatKind.f64.format.order 0 0 != some .eq) = false)
    (c3 : (FloatKind.f64.format.order x 4666723172467343360 == some .gt || FloatKind.f64.format.order x 4666723172467343360 == some .eq) = false) (hc : floatToIntVal .f64 x .i64 = some n) :
    Calls Try.prog 37 #[.float .f64 x] w fun e w' => e = .returned (.tuple #[.int .i64 n, .bool true]) ∧ ∃ k, w' = w.drewN k := by
  have hcon := fun w => run_convert_float_int (P := Try.prog) w 28 3 .f64 .i64 x n (by rw [Try.underlying28]; rfl) Try.underlying3 hc
  clear hc
  go_enter Try.func37, Try.ntmps37
  go_wp2_with fail
  go_ret2
  exact ⟨rfl, 0, rfl⟩

theorem nan_word (t : Nat) : ∃ s f, Ieee.double.read ((t % 2) * 2 ^ 63 + 0x7ff0000000000000 + 1 + (t / 2) % (2 ^ 52 - 1)) = .nan s f := by
  have hr : (t / 2) % 4503599627370495 < 4503599627370495 := Nat.mod_lt _ (by omega)
  obtain ⟨r, hr'⟩ : ∃ r, (t / 2) % 4503599627370495 = r := ⟨_, rfl⟩
  rw [show (2 : Nat) ^ 52 - 1 = 4503599627370495 from by decide, show (2 : Nat) ^ 63 = 9223372036854775808 from by decide, hr']
  rw [hr'] at hr
  have h1 := Flt.read_word (decide (t % 2 = 1)) (9218868437227405312 + 1 + r) (by omega)
  rw [if_neg (by omega), if_neg (by omega), if_neg (by omega)] at h1
  refine ⟨_, _, Eq.trans ?_ h1⟩
  congr 1
  unfold Ieee.Format.word
  rw [Flt.signWeight_eq]
  rcases (by omega : t % 2 = 0 ∨ t % 2 = 1) with h | h
  · rw [h]; first | (simp; done) | (simp; omega)
  · rw [h]; first | (simp; done) | (simp; omega)

theorem sub_draws {x : Nat} {s : Bool} (h : Ieee.double.read x = .infinity s) (w : World) :
    ∃ y, (binOp .sub 28 (.float .f64 x) (.float .f64 x)).run Try.prog w = .ok (.float .f64 y) w.drew ∧ (FloatKind.f64.format.order y 0 != some .eq) = true := by
  have hn : FloatKind.f64.format.sub x x = none := sub_self_inf h
  obtain ⟨t, ht⟩ : ∃ t, w.tape w.drawn (.nanBits .f64 x x) = t := ⟨_, rfl⟩
  refine ⟨(t % 2) * 2 ^ 63 + 0x7ff0000000000000 + 1 + (t / 2) % (2 ^ 52 - 1), ?_, ?_⟩
  · show (Op.floatArith .sub .f64 x x).run Try.prog w = _
    simp only [Op.floatArith, hn, Sem.run_bind, Sem.run_pure, Result.andThen_ok, run_choose_drew]
    rw [← ht]
    rfl
  · obtain ⟨s', f, hf⟩ := nan_word t
    have : FloatKind.f64.format.order ((t % 2) * 2 ^ 63 + 0x7ff0000000000000 + 1 + (t / 2) % (2 ^ 52 - 1)) 0 = none := Flt.order_nan_left hf
    rw [this]; rfl

theorem rpercent_any (x : Nat) (w : World) : Calls Try.prog 37 #[.float .f64 x] w fun e w' => e = .returned (.tuple #[.int .i64 (Flt.pct x).1, .bool (Flt.pct x).2]) ∧ ∃ n, w' = w.drewN n := by
  rcases Flt.read_cases x with ⟨z, h⟩ | ⟨s, h⟩ | ⟨s, f, h⟩
  · rw [Flt.pct_num h]
    have c1 : (FloatKind.f64.format.order x 0 == some .lt) = decide (z < 0) := Flt.cmp_lss h Flt.num_zero
    by_cases h1 : z < 0
    · rw [decide_eq_true h1] at c1
      rw [if_pos h1]
      exact rpct_less_walk w (self_ne h) c1
    · rw [decide_eq_false h1] at c1
      rw [if_neg h1]
      have hQ := Flt.Q_pos
      have hr := Flt.pctZ_range (z := z) (by omega)
      have c3 : (FloatKind.f64.format.order x 4666723172467343360 == some .gt || FloatKind.f64.format.order x 4666723172467343360 == some .eq) = decide (10000 * (Flt.Q : Int) ≤ z) := Flt.cmp_ge h Flt.num_10000
      have hs : ∀ w, (binOp .sub 28 (.float .f64 x) (.float .f64 x)).run Try.prog w = .ok (.float .f64 0) w := fun w => run_float_arith w .sub 28 .f64 x x 0 (sub_self_num h)
      have c2 : (FloatKind.f64.format.order 0 0 != some .eq) = false := by decide +kernel
      by_cases h2 : z < 10000 * (Flt.Q : Int)
      · have e : Flt.pctZ z = z / (Flt.Q : Int) := by unfold Flt.pctZ; rw [if_pos h2]
        rw [e] at hr ⊢
        rw [decide_eq_false (by omega)] at c3
        have hc : floatToIntVal .f64 x .i64 = some (z / (Flt.Q : Int)) := by
          unfold floatToIntVal
          have e' : (FloatKind.f64.decode x).toInt .zero = some (z.tdiv (Flt.Q : Int)) := Flt.toInt_num h
          rw [e', Int.tdiv_eq_ediv_of_nonneg (by omega)]
          simp only
          rw [if_pos]
          exact ⟨Int.le_trans (by decide) hr.1, Int.le_trans hr.2 (by decide)⟩
        exact rpct_on_walk w (self_ne h) c1 hs c2 c3 hc
      · have e : Flt.pctZ z = 10000 := by unfold Flt.pctZ; rw [if_neg h2]
        rw [e]
        rw [decide_eq_true (by omega)] at c3
        exact rpct_big_walk w (self_ne h) c1 hs c2 c3
  · rw [Flt.pct_inf h]
    have c0 : (FloatKind.f64.format.order x x != some .eq) = false := by
      have : FloatKind.f64.format.order x x = some .eq := Flt.order_inf_self h
      rw [this]; rfl
    have e1 : FloatKind.f64.format.order x 0 = some (if s then .lt else .gt) := Flt.order_inf_num h Flt.num_zero
    cases s with
    | true => exact rpct_less_walk w c0 (by rw [e1]; rfl)
    | false =>
      obtain ⟨y, hs, c2⟩ := sub_draws h w
      exact rpct_inf_walk w c0 (by rw [e1]; rfl) hs c2
  · rw [Flt.pct_nan h]
    have c0 : (FloatKind.f64.format.order x x != some .eq) = true := by
      have : FloatKind.f64.format.order x x = none := Flt.order_nan_left h
      rw [this]; rfl
    exact rpct_nan_walk w c0

set_option maxHeartbeats 400000 in
theorem rprt_nan_walk {x : Nat} (w : World) (c0 : (FloatKind.f64.format.order x x != some .eq) = true) :
    Calls Try.prog 38 #[.float .f64 x] w fun e w' => e = .returned (.int .i64 262144) ∧ w = w' := by
  go_enter Try.func38, Try.ntmps38
  go_wp2_with fail
  go_ret
  exact ⟨rfl, rfl⟩
set_option maxHeartbeats 400000 in
theorem rprt_low_walk {x : Nat} (w : World) (c0 : (FloatKind.f64.format.order x x != some .eq) = false) (c1 : (FloatKind.f64.format.order x 4580160821035794432 == some .lt) = true) :
    Calls Try.prog 38 #[.float .f64 x] w fun e w' => e = .returned (.int .i64 16384) ∧ w = w' := by
  go_enter Try.func38, Try.ntmps38
  go_wp2_with fail
  go_ret
  exact ⟨rfl, rfl⟩
set_option maxHeartbeats 400000 in
theorem rprt_high_walk {x : Nat} (w : World) (c0 : (FloatKind.f64.format.order x x != some .eq) = false) (c1 : (FloatKind.f64.format.order x 4580160821035794432 == some .lt) = false)
    (c2 : (FloatKind.f64.format.order x 4607182418800017408 == some .gt || FloatKind.f64.format.order x 4607182418800017408 == some .eq) = true) :
    Calls Try.prog 38 #[.float .f64 x] w fun e w' => e = .returned (.int .i64 1048576) ∧ w = w' := by
  go_enter Try.func38, Try.ntmps38
  go_wp2_with fail
  go_ret
  exact ⟨rfl, rfl⟩
set_option maxHeartbeats 400000 in
theorem rprt_mid_walk {x : Nat} (w : World) (c0 : (FloatKind.f64.format.order x x != some .eq) = false) (c1 : (FloatKind.f64.format.order x 4580160821035794432 == some .lt) = false)
    (c2 : (FloatKind.f64.format.order x 4607182418800017408 == some .gt || FloatKind.f64.format.order x 4607182418800017408 == some .eq) = false) :
    Calls Try.prog 38 #[.float .f64 x] w fun e w' => e = .returned (.int .i64 (Flt.flt x)) ∧ w = w' := by
  go_enter Try.func38, Try.ntmps38
  go_wp2_with fail
  refine (rfloat_any _ _).mono ?_; rintro e w' ⟨rfl, rfl⟩
  go_wp2_with fail
  go_ret
  exact ⟨rfl, rfl⟩

/-- How a float of so many units stands to 1/64 and 1, and what conf.Part comes to. -/
theorem rpart_any (x : Nat) (w : World) : Calls Try.prog 38 #[.float .f64 x] w fun e w' => e = .returned (.int .i64 (Flt.prt x)) ∧ w = w' := by
  obtain ⟨t, h64, ht⟩ := Flt.num_64th
  have hQ := Flt.Q_pos
  rcases Flt.read_cases x with ⟨z, h⟩ | ⟨s, h⟩ | ⟨s, f, h⟩
  · rw [Flt.prt_num h]
    have c1 : (FloatKind.f64.format.order x 4580160821035794432 == some .lt) = decide (z < t) := Flt.cmp_lss h h64
    have c2 : (FloatKind.f64.format.order x 4607182418800017408 == some .gt || FloatKind.f64.format.order x 4607182418800017408 == some .eq) = decide ((Flt.Q : Int) ≤ z) := Flt.cmp_ge h Flt.num_one
    by_cases h1 : z < t
    · rw [decide_eq_true h1] at c1
      rw [show Flt.prtZ z = 16384 from by unfold Flt.prtZ; rw [if_pos (by omega)]]
      exact rprt_low_walk w (self_ne h) c1
    · rw [decide_eq_false h1] at c1
      by_cases h2 : (Flt.Q : Int) ≤ z
      · rw [decide_eq_true h2] at c2
        rw [show Flt.prtZ z = 1048576 from by unfold Flt.prtZ; rw [if_neg (by omega), if_pos h2]]
        exact rprt_high_walk w (self_ne h) c1 c2
      · rw [decide_eq_false h2] at c2
        have e : Flt.prtZ z = Flt.flt x := by
          rw [Flt.flt_num h]
          unfold Flt.prtZ Flt.fltZ
          rw [if_neg (by omega), if_neg h2, if_neg (by omega), if_neg (by omega)]
        rw [e]
        exact rprt_mid_walk w (self_ne h) c1 c2
  · have c0 : (FloatKind.f64.format.order x x != some .eq) = false := by
      have : FloatKind.f64.format.order x x = some .eq := Flt.order_inf_self h
      rw [this]; rfl
    have e1 : FloatKind.f64.format.order x 4580160821035794432 = some (if s then .lt else .gt) := Flt.order_inf_num h h64
    have e2 : FloatKind.f64.format.order x 4607182418800017408 = some (if s then .lt else .gt) := Flt.order_inf_num h Flt.num_one
    have e : Flt.prt x = if s then 16384 else 1048576 := by unfold Flt.prt; rw [h]
    rw [e]
    cases s with
    | true => exact rprt_low_walk w c0 (by rw [e1]; rfl)
    | false => exact rprt_high_walk w c0 (by rw [e1]; rfl) (by rw [e2]; rfl)
  · have c0 : (FloatKind.f64.format.order x x != some .eq) = true := by
      have : FloatKind.f64.format.order x x = none := Flt.order_nan_left h
      rw [this]; rfl
    have e : Flt.prt x = 262144 := by unfold Flt.prt; rw [h]
    rw [e]
    exact rprt_nan_walk w c0




set_option maxHeartbeats 2000000 in
theorem rmay_any (ps words : Int) (f g : Value) (w : World) : Calls Try.prog 39 #[.agg #[.int .i64 ps, .int .i64 words, f, g]] w fun e w' => e = .returned (.bool (mayB ps words)) ∧ Grown w w' := by
  by_cases a1 : 1 ≤ ps
  · by_cases a2 : ps ≤ 64
    · by_cases a3 : 256 ≤ words
      · by_cases a4 : words ≤ 16777216
        · by_cases a5 : words % 64 = 0
          · have e : mayB ps words = true := decide_eq_true ⟨a1, a2, a3, a4, a5⟩
            rw [e]
            clear e
            have a6 : (words % 64 == 0) = true := by simp [a5]
            clear a5
            go_enter Try.func39, Try.ntmps39
            go_wp2
            go_ret
            exact ⟨rfl, (Grown.refl _).alloc _ _⟩
          · have e : mayB ps words = false := decide_eq_false (fun h => a5 h.2.2.2.2)
            rw [e]
            clear e
            have a6 : (words % 64 == 0) = false := by simp [a5]
            clear a5
            go_enter Try.func39, Try.ntmps39
            go_wp2
            go_ret
            exact ⟨rfl, (Grown.refl _).alloc _ _⟩
        · have e : mayB ps words = false := decide_eq_false (fun h => a4 h.2.2.2.1)
          rw [e]
          clear e
          go_enter Try.func39, Try.ntmps39
          go_wp2
          go_ret
          exact ⟨rfl, (Grown.refl _).alloc _ _⟩
      · have e : mayB ps words = false := decide_eq_false (fun h => a3 h.2.2.1)
        rw [e]
        clear e
        go_enter Try.func39, Try.ntmps39
        go_wp2
        go_ret
        exact ⟨rfl, (Grown.refl _).alloc _ _⟩
    · have e : mayB ps words = false := decide_eq_false (fun h => a2 h.2.1)
      rw [e]
      clear e
      go_enter Try.func39, Try.ntmps39
      go_wp2
      go_ret
      exact ⟨rfl, (Grown.refl _).alloc _ _⟩
  · have e : mayB ps words = false := decide_eq_false (fun h => a1 h.1)
    rw [e]
    clear e
    go_enter Try.func39, Try.ntmps39
    go_wp2
    go_ret
    exact ⟨rfl, (Grown.refl _).alloc _ _⟩

theorem rmay_at (ps words : Int) (f g : Value) (b : Bool) (h : mayB ps words = b) (w : World) : Calls Try.prog 39 #[.agg #[.int .i64 ps, .int .i64 words, f, g]] w fun e w' => e = .returned (.bool b) ∧ Grown w w' := by
  have := rmay_any ps words f g w
  rw [h] at this
  exact this
end Go.Proofs.Ytlbefohabphjlaa
