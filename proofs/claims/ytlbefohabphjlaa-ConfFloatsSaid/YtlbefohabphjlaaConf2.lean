/-
  THE WALKS of conf.May and of the statements' own told (layer 2).
-/
import Derived.Test.YtlbefohabphjlaaConf
import Derived.RowKit3
namespace Go.Proofs.Ytlbefohabphjlaa
open Go.RowKit

theorem percent_at (x : Nat) (a : Int) (b : Bool) (h : Flt.pct x = (a, b)) (w : World) : Calls Try.prog 33 #[.float .f64 x] w fun e w' => e = .returned (.tuple #[.int .i64 a, .bool b]) ∧ w = w' := by
  have := percent_any x w
  rw [h] at this
  exact this
theorem part_at (x : Nat) (a : Int) (h : Flt.prt x = a) (w : World) : Calls Try.prog 34 #[.float .f64 x] w fun e w' => e = .returned (.int .i64 a) ∧ w = w' := by
  have := part_any x w
  rw [h] at this
  exact this

/-- conf.May. -/
def mayB (ps words : Int) : Bool := decide (1 ≤ ps ∧ ps ≤ 64 ∧ 256 ≤ words ∧ words ≤ 16777216 ∧ words % 64 = 0)

theorem grown_trans {a b c : World} (h1 : Grown a b) (h2 : Grown b c) : Grown a c :=
  ⟨World.keptBut_trans h1.1 h2.1, fun x => (h2.2.1 x).trans (h1.2.1 x), Nat.le_trans h1.2.2 h2.2.2⟩
theorem grown_drewN {a b : World} (h : Grown a b) (n : Nat) : Grown a (b.drewN n) := h

set_option maxHeartbeats 2000000 in
theorem may_any (ps words : Int) (f g : Value) (w : World) : Calls Try.prog 36 #[.agg #[.int .i64 ps, .int .i64 words, f, g]] w fun e w' => e = .returned (.bool (mayB ps words)) ∧ Grown w w' := by
  by_cases a1 : 1 ≤ ps
  · by_cases a2 : ps ≤ 64
    · by_cases a3 : 256 ≤ words
      · by_cases a4 : words ≤ 16777216
        · by_cases a5 : words % 64 = 0
          · have e : mayB ps words = true := decide_eq_true ⟨a1, a2, a3, a4, a5⟩
            rw [e]
            clear e
            have a6 : (words % 64 == 0) = true := by simp [a5]
            clear a5
            go_enter Try.func36, Try.ntmps36
            go_wp2
            go_ret
            exact ⟨rfl, (Grown.refl _).alloc _ _⟩
          · have e : mayB ps words = false := decide_eq_false (fun h => a5 h.2.2.2.2)
            rw [e]
            clear e
            have a6 : (words % 64 == 0) = false := by simp [a5]
            clear a5
            go_enter Try.func36, Try.ntmps36
            go_wp2
            go_ret
            exact ⟨rfl, (Grown.refl _).alloc _ _⟩
        · have e : mayB ps words = false := decide_eq_false (fun h => a4 h.2.2.2.1)
          rw [e]
          clear e
          go_enter Try.func36, Try.ntmps36
          go_wp2
          go_ret
          exact ⟨rfl, (Grown.refl _).alloc _ _⟩
      · have e : mayB ps words = false := decide_eq_false (fun h => a3 h.2.2.1)
        rw [e]
        clear e
        go_enter Try.func36, Try.ntmps36
        go_wp2
        go_ret
        exact ⟨rfl, (Grown.refl _).alloc _ _⟩
    · have e : mayB ps words = false := decide_eq_false (fun h => a2 h.2.1)
      rw [e]
      clear e
      go_enter Try.func36, Try.ntmps36
      go_wp2
      go_ret
      exact ⟨rfl, (Grown.refl _).alloc _ _⟩
  · have e : mayB ps words = false := decide_eq_false (fun h => a1 h.1)
    rw [e]
    clear e
    go_enter Try.func36, Try.ntmps36
    go_wp2
    go_ret
    exact ⟨rfl, (Grown.refl _).alloc _ _⟩

theorem may_at (ps words : Int) (f g : Value) (b : Bool) (h : mayB ps words = b) (w : World) : Calls Try.prog 36 #[.agg #[.int .i64 ps, .int .i64 words, f, g]] w fun e w' => e = .returned (.bool b) ∧ Grown w w' := by
  have := may_any ps words f g w
  rw [h] at this
  exact this

theorem pct_50 : Flt.pct 4632360355466785587 = (50, true) := by decide +kernel
theorem pct_neg : Flt.pct 13830554455654793216 = (0, false) := by decide +kernel
theorem prt_half : Flt.prt 4602678819172646912 = 524288 := by decide +kernel
theorem prt_neg : Flt.prt 13837309855095848960 = 16384 := by decide +kernel

set_option maxHeartbeats 1000000 in
theorem told2_any (w : World) : Calls Try.prog 35 #[] w fun e w' => e = .returned (.bool true) ∧ Grown w w' := by
  go_enter Try.func35, Try.ntmps35
  go_wp2_with fail
  refine (percent_at _ _ _ pct_50 _).mono ?_; rintro e w' ⟨rfl, rfl⟩
  go_wp2_with fail
  refine (percent_at _ _ _ pct_neg _).mono ?_; rintro e w' ⟨rfl, rfl⟩
  go_wp2_with fail
  refine (part_at _ _ prt_half _).mono ?_; rintro e w' ⟨rfl, rfl⟩
  go_wp2_with fail
  refine (part_at _ _ prt_neg _).mono ?_; rintro e w' ⟨rfl, rfl⟩
  go_wp2_with fail
  refine (may_at 1 256 _ _ true (by decide) _).mono ?_; rintro e w1 ⟨rfl, g1⟩
  go_wp2_with fail
  refine (may_at 1 257 _ _ false (by decide) _).mono ?_; rintro e w2 ⟨rfl, g2⟩
  go_wp2_with fail
  go_ret
  exact ⟨rfl, grown_trans g1 g2⟩

end Go.Proofs.Ytlbefohabphjlaa
