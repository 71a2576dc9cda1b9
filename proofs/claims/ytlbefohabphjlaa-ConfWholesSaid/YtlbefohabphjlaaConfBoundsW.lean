/-
  THE WALK of treadmilllaw2.ConfBounds: conf.May takes 1 to 64 Ps, 256 to 2^24 words, a multiple of 64.
-/
import Derived.Test.YtlbefohabphjlaaConf2
namespace Go.Proofs.Ytlbefohabphjlaa
open Go.RowKit

/-- A number as an unsigned one, modulo another. -/
theorem utmod (a m : Int) (hm : 0 < m) : ∃ x, (IntKind.u64.wrap a).tmod m = x ∧ 0 ≤ x ∧ x < m := by
  refine ⟨_, rfl, ?_, ?_⟩
  · rw [u64_wrap, Int.tmod_eq_emod_of_nonneg (by omega)]; exact Int.emod_nonneg _ (by omega)
  · rw [u64_wrap, Int.tmod_eq_emod_of_nonneg (by omega)]; exact Int.emod_lt_of_pos _ hm

set_option maxHeartbeats 8000000 in
theorem confBounds_walk (a b c : Int) (w : World) (_ha : -9223372036854775808 ≤ a) (_ha' : a ≤ 9223372036854775807) (_hb : -9223372036854775808 ≤ b) (_hb' : b ≤ 9223372036854775807) (_hc : -9223372036854775808 ≤ c) (_hc' : c ≤ 9223372036854775807) :
    Calls Try.prog 13 #[.int .i64 a, .int .i64 b, .int .i64 c] w fun e w' => e = .returned (.bool true) ∧ Grown w w' := by
  obtain ⟨x, hx, hx0, hx1⟩ := utmod a 70 (by omega)
  obtain ⟨y, hy, hy0, hy1⟩ := utmod b 10 (by omega)
  obtain ⟨z, hz, hz0, hz1⟩ := utmod c 3 (by omega)
  have h3 : mayB (x - 2) (-(64 * y)) = false := decide_eq_false (by omega)
  obtain ⟨B1, h1⟩ : ∃ B, mayB (x - 2) (64 * y + z) = B := ⟨_, rfl⟩
  obtain ⟨B2, h2⟩ : ∃ B, mayB (x - 2) (16777216 + 64 * z) = B := ⟨_, rfl⟩
  rcases (by omega : x - 2 < 1 ∨ (1 ≤ x - 2 ∧ 64 < x - 2) ∨ (1 ≤ x - 2 ∧ x - 2 ≤ 64)) with p1 | ⟨p1, p2⟩ | ⟨p1, p2⟩ <;>
  rcases (by omega : 64 * y < 256 ∨ 256 ≤ 64 * y) with q1 | q1 <;>
  rcases (by by_cases h : z = 0; exact Or.inl ⟨h, by simp [h]⟩; exact Or.inr ⟨by omega, by simp [h]⟩ : (z = 0 ∧ (z == 0) = true) ∨ (1 ≤ z ∧ (z == 0) = false)) with ⟨r1, r2⟩ | ⟨r1, r2⟩ <;>
  cases B1 <;> cases B2
  all_goals try (exfalso; have hh := of_decide_eq_true h1; omega)
  all_goals try (exfalso; have hh := of_decide_eq_false h1; omega)
  all_goals try (exfalso; have hh := of_decide_eq_true h2; omega)
  all_goals try (exfalso; have hh := of_decide_eq_false h2; omega)
  all_goals
    have r3 : -1 < z := by omega
    clear r1
    have H1 := Lib.hid h1
    have H2 := Lib.hid h2
    have H3 := Lib.hid h3
    clear h1 h2 h3
    go_enter Try.func13, Try.ntmps13
    go_wp2_with fail
    refine (told2_any _).mono ?_; rintro e w1 ⟨rfl, g1⟩
    go_wp2_with fail
    refine (may_at _ _ _ _ _ H1.out _).mono ?_; rintro e w2 ⟨rfl, g2⟩
    go_wp2_with fail
    refine (may_at _ _ _ _ _ H2.out _).mono ?_; rintro e w3 ⟨rfl, g3⟩
    go_wp2_with fail
    refine (may_at _ _ _ _ _ H3.out _).mono ?_; rintro e w4 ⟨rfl, g4⟩
    go_wp2_with fail
    go_ret
    exact ⟨rfl, grown_trans g1 (grown_trans g2 (grown_trans g3 g4))⟩

end Go.Proofs.Ytlbefohabphjlaa
