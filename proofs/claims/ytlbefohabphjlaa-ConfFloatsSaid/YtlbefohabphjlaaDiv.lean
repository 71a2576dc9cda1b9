/-
  THE WALK of math/bits.Div64, where the quotient fits a word: the long division's quotient and remainder.
-/
import Derived.Test.YtlbefohabphjlaaMul
import Derived.Test.YtlbefohabphjlaaKnuth
import Derived.Deep.QuietTactic
import Derived.Deep.CutBlock
import Derived.BigQuiet
namespace Go.Proofs.Ytlbefohabphjlaa
open Go.RowKit

set_option maxHeartbeats 1000000 in
theorem div64_low (lo y : Int) (w : World) (h1 : 0 < y) (h2 : y < 18446744073709551616) (h3 : 0 ≤ lo) (h4 : lo < 18446744073709551616) :
    Calls Try.prog 45 #[.int .u64 0, .int .u64 lo, .int .u64 y] w fun e w' => e = .returned (.tuple #[.int .u64 (lo / y), .int .u64 (lo % y)]) ∧ ∃ n, w' = w.drewN n := by
  have hy : (y == 0) = false := by simp; omega
  go_enter Try.func45, Try.ntmps45
  go_wp2_with fail
  go_quiet (fail)
  go_wp2_with fail
  go_ret2
  exact ⟨rfl, _, rfl⟩

theorem lz_any (y s : Nat) (w : World) (hy : y < 18446744073709551616) (hs : Lib.bitLen y + s = 64) :
    Calls Try.prog 51 #[.int .u64 y] w fun e w' => e = .returned (.int .i64 (s : Int)) ∧ w = w' :=
  (Try.bits_LeadingZeros64 y w (by omega) (by omega)).mono fun e w' ⟨he, hw⟩ => ⟨by rw [he, Int.toNat_natCast]; exact ret_int (by omega), hw.symm⟩

set_option maxHeartbeats 2000000 in
theorem div64_high (hi lo y s Y a b U L u1 u0 q0 r0 Q1 V q0' r0' Q0 quo rem : Nat) (w : World) (h0 : 0 < hi) (h1 : hi < y) (h2 : y < 18446744073709551616)
    (hs : Lib.bitLen y + s = 64) (hs' : s < 64)
    (f1 : IntKind.u64.wrap ((y : Int) * 2 ^ s) = (Y : Int))
    (f2 : (Y : Int) / 4294967296 = a)
    (f3 : bits .and .u64 (Y : Int) 4294967295 = b)
    (f4 : bits .or .u64 (IntKind.u64.wrap ((hi : Int) * 2 ^ s)) ((lo : Int) / 2 ^ (64 - s)) = (U : Int))
    (f5 : IntKind.u64.wrap ((lo : Int) * 2 ^ s) = (L : Int))
    (f6 : (L : Int) / 4294967296 = u1)
    (f7 : bits .and .u64 (L : Int) 4294967295 = u0)
    (f8 : IntKind.u64.wrap ((U : Int) / a) = q0)
    (f9 : IntKind.u64.wrap ((U : Int) - IntKind.u64.wrap (q0 * a)) = r0)
    (f10 : IntKind.u64.wrap (IntKind.u64.wrap (IntKind.u64.wrap ((U : Int) * 4294967296) + u1) - IntKind.u64.wrap (Q1 * Y)) = V)
    (f11 : IntKind.u64.wrap ((V : Int) / a) = q0')
    (f12 : IntKind.u64.wrap ((V : Int) - IntKind.u64.wrap (q0' * a)) = r0')
    (f13 : IntKind.u64.wrap (IntKind.u64.wrap ((Q1 : Int) * 4294967296) + Q0) = quo)
    (f14 : IntKind.u64.wrap (IntKind.u64.wrap (IntKind.u64.wrap ((V : Int) * 4294967296) + u0) - IntKind.u64.wrap (Q0 * Y)) = rem)
    (hinv : Knuth.Inv U u1 a Y q0 r0) (hinv' : Knuth.Inv V u0 a Y q0' r0')
    (hQ1 : (U * 4294967296 + u1) / Y = Q1) (hQ0 : (V * 4294967296 + u0) / Y = Q0)
    (ha : 2147483648 ≤ (a : Int)) (ha' : a < 4294967296) (hb : b < 4294967296) (hu1 : u1 < 4294967296) (hu0 : u0 < 4294967296) (hY : Y = a * 4294967296 + b) (hU : U < Y) (hV : V < Y) :
    Calls Try.prog 45 #[.int .u64 hi, .int .u64 lo, .int .u64 y] w fun e w' => e = .returned (.tuple #[.int .u64 quo, .int .u64 ((rem : Int) / 2 ^ s)]) ∧ ∃ n, w' = w.drewN n := by
  have hy : ((y : Int) == 0) = false := by simp; omega
  have hh : ((hi : Int) == 0) = false := by simp; omega
  have Hs := Lib.hid hs
  have HY := Lib.hid hY
  have HQ1 := Lib.hid hQ1
  have HQ0 := Lib.hid hQ0
  clear hs hY hQ1 hQ0
  go_enter Try.func45, Try.ntmps45
  go_wp2_with fail
  refine (lz_any _ _ _ (by omega) Hs.out).mono ?_; rintro e w' ⟨rfl, rfl⟩
  go_upto_block 0 with fail
  go_cut [15, 16] from 67 to 85 (fun q r wx => q = .int .u64 Q1 ∧ (∃ R : Nat, r = .int .u64 R) ∧ w = wx)
  case first =>
    go_wp2_with fail
    go_loop [15, 16] (fun q r => ∃ Q R : Nat, Knuth.Inv U u1 a Y Q R ∧ q = .int .u64 Q ∧ r = .int .u64 R) (fun q _ => (intOf q).toNat)
    case atStart => exact ⟨_, _, hinv, rfl, rfl⟩
    case round =>
      obtain ⟨Q, R, hI, rfl, rfl⟩ := hrel
      have hR := hI.low
      have hQ := hI.least
      by_cases c1 : 4294967296 ≤ (Q : Int)
      · have ht : 4294967296 ≤ Q ∨ R * 4294967296 + u1 < Q * b := Or.inl (by omega)
        have hq1 : (1 : Int) ≤ Q := by have := hI.pos HY.out hu1 hU ht; omega
        have Ht := Lib.hid ht
        clear ht
        by_cases c3 : 4294967296 ≤ (R : Int) + a
        · go_wp2_with fail
          go_meet
          exact ⟨by rw [← HQ1.out, hI.stop HY.out hb hu1 hU Ht.out (by omega), show ((Q - 1 : Nat) : Int) = (Q : Int) - 1 from by omega], ⟨R + a, by rw [Int.natCast_add]⟩, rfl⟩
        · go_wp2_with fail
          go_round
          case rel => exact ⟨Q - 1, R + a, hI.next HY.out hu1 hU Ht.out (by omega), by rw [show ((Q - 1 : Nat) : Int) = (Q : Int) - 1 from by omega], by rw [Int.natCast_add]⟩
          case measure => simp [intOf]; omega
      · obtain ⟨M, hM⟩ : ∃ M : Nat, M = Q * b := ⟨_, rfl⟩
        have hP : IntKind.u64.wrap ((Q : Int) * b) = (M : Int) := by rw [hM, ← Int.natCast_mul, u64_in (by omega) (by have := Knuth.prod_lt (q := Q) (b := b) (by omega) hb; omega)]
        have HM := Lib.hid hM
        clear hM
        by_cases c2 : 4294967296 * (R : Int) + u1 < M
        · have ht : 4294967296 ≤ Q ∨ R * 4294967296 + u1 < Q * b := Or.inr (by rw [← HM.out]; omega)
          have hq1 : (1 : Int) ≤ Q := by have := hI.pos HY.out hu1 hU ht; omega
          have Ht := Lib.hid ht
          clear ht
          by_cases c3 : 4294967296 ≤ (R : Int) + a
          · go_wp2_with fail
            go_meet
            exact ⟨by rw [← HQ1.out, hI.stop HY.out hb hu1 hU Ht.out (by omega), show ((Q - 1 : Nat) : Int) = (Q : Int) - 1 from by omega], ⟨R + a, by rw [Int.natCast_add]⟩, rfl⟩
          · go_wp2_with fail
            go_round
            case rel => exact ⟨Q - 1, R + a, hI.next HY.out hu1 hU Ht.out (by omega), by rw [show ((Q - 1 : Nat) : Int) = (Q : Int) - 1 from by omega], by rw [Int.natCast_add]⟩
            case measure => simp [intOf]; omega
        · go_wp2_with fail
          go_meet
          exact ⟨by rw [← HQ1.out, hI.done HY.out hU (by rw [← HM.out]; omega)], ⟨R, rfl⟩, rfl⟩
  case rest =>
    obtain ⟨rfl, ⟨R, rfl⟩, rfl⟩ := hcut
    go_upto_block 2 with fail
    go_cut [18, 16] from 102 to 120 (fun q r wx => q = .int .u64 Q0 ∧ (∃ R : Nat, r = .int .u64 R) ∧ w = wx)
    case first =>
      go_wp2_with fail
      go_loop [18, 16] (fun q r => ∃ Q R : Nat, Knuth.Inv V u0 a Y Q R ∧ q = .int .u64 Q ∧ r = .int .u64 R) (fun q _ => (intOf q).toNat)
      case atStart => exact ⟨_, _, hinv', rfl, rfl⟩
      case round =>
        obtain ⟨Q, R, hI, rfl, rfl⟩ := hrel
        have hR := hI.low
        have hQ := hI.least
        by_cases c1 : 4294967296 ≤ (Q : Int)
        · have ht : 4294967296 ≤ Q ∨ R * 4294967296 + u0 < Q * b := Or.inl (by omega)
          have hq1 : (1 : Int) ≤ Q := by have := hI.pos HY.out hu0 hV ht; omega
          have Ht := Lib.hid ht
          clear ht
          by_cases c3 : 4294967296 ≤ (R : Int) + a
          · go_wp2_with fail
            go_meet
            exact ⟨by rw [← HQ0.out, hI.stop HY.out hb hu0 hV Ht.out (by omega), show ((Q - 1 : Nat) : Int) = (Q : Int) - 1 from by omega], ⟨R + a, by rw [Int.natCast_add]⟩, rfl⟩
          · go_wp2_with fail
            go_round
            case rel => exact ⟨Q - 1, R + a, hI.next HY.out hu0 hV Ht.out (by omega), by rw [show ((Q - 1 : Nat) : Int) = (Q : Int) - 1 from by omega], by rw [Int.natCast_add]⟩
            case measure => simp [intOf]; omega
        · obtain ⟨M, hM⟩ : ∃ M : Nat, M = Q * b := ⟨_, rfl⟩
          have hP : IntKind.u64.wrap ((Q : Int) * b) = (M : Int) := by rw [hM, ← Int.natCast_mul, u64_in (by omega) (by have := Knuth.prod_lt (q := Q) (b := b) (by omega) hb; omega)]
          have HM := Lib.hid hM
          clear hM
          by_cases c2 : 4294967296 * (R : Int) + u0 < M
          · have ht : 4294967296 ≤ Q ∨ R * 4294967296 + u0 < Q * b := Or.inr (by rw [← HM.out]; omega)
            have hq1 : (1 : Int) ≤ Q := by have := hI.pos HY.out hu0 hV ht; omega
            have Ht := Lib.hid ht
            clear ht
            by_cases c3 : 4294967296 ≤ (R : Int) + a
            · go_wp2_with fail
              go_meet
              exact ⟨by rw [← HQ0.out, hI.stop HY.out hb hu0 hV Ht.out (by omega), show ((Q - 1 : Nat) : Int) = (Q : Int) - 1 from by omega], ⟨R + a, by rw [Int.natCast_add]⟩, rfl⟩
            · go_wp2_with fail
              go_round
              case rel => exact ⟨Q - 1, R + a, hI.next HY.out hu0 hV Ht.out (by omega), by rw [show ((Q - 1 : Nat) : Int) = (Q : Int) - 1 from by omega], by rw [Int.natCast_add]⟩
              case measure => simp [intOf]; omega
          · go_wp2_with fail
            go_meet
            exact ⟨by rw [← HQ0.out, hI.done HY.out hV (by rw [← HM.out]; omega)], ⟨R, rfl⟩, rfl⟩
    case rest =>
      obtain ⟨rfl, ⟨R, rfl⟩, rfl⟩ := hcut
      go_wp2_with fail
      go_ret2
      exact ⟨rfl, 0, rfl⟩
end Go.Proofs.Ytlbefohabphjlaa
