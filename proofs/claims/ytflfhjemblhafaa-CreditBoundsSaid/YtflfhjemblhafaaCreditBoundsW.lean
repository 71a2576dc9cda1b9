/-
  THE WALK of treadmilllaw22.CreditBounds: words allocated are at most what was scanned by the ratio, and 64, whatever is asked.
-/
import Derived.Test.YtflfhjemblhafaaCredit3
namespace Go.Proofs.Ytflfhjemblhafaa
open Go.RowKit

/-- A number as an unsigned one, modulo another. -/
theorem utmod (a m : Int) (hm : 0 < m) : ∃ x, (IntKind.u64.wrap a).tmod m = x ∧ 0 ≤ x ∧ x < m := by
  refine ⟨_, rfl, ?_, ?_⟩
  · rw [u64_wrap, Int.tmod_eq_emod_of_nonneg (by omega)]; exact Int.emod_nonneg _ (by omega)
  · rw [u64_wrap, Int.tmod_eq_emod_of_nonneg (by omega)]; exact Int.emod_lt_of_pos _ hm

theorem in_hid {a : Int} (h1 : -9223372036854775808 ≤ a) (h2 : a ≤ 9223372036854775807) : Hid (In a) := Lib.hid ⟨h1, h2⟩
theorem add_hid {a b r : Int} (h : a + b = r) (h1 : -9223372036854775808 ≤ r) (h2 : r ≤ 9223372036854775807) : Hid (Fx.add a b = r) := Lib.hid (by unfold Fx.add; rw [h]; exact Fx.sat_eq h1 h2)
theorem cell_in {w w' : World} (b : Below w.heap.size w w') {a : Addr} {v : Value} (h : w.cell? a = some v) : w'.cell? a = some v :=
  (b.cell (World.block_lt_of_cell? w a h)).trans h

theorem sums_gb (c m k : Nat) (g r bank a s : Int) (f : Int → Int × Int) (w : World) (HA : Hid (Cr.At w c m k r bank f)) (hg : Hid (In g)) (hf : Hid (f g = (a, s))) :
    Calls Try.prog 35 #[.pointer (some ⟨c, 0, none⟩), .int .i64 g] w fun e w' => e = .returned (.tuple #[.int .i64 a, .int .i64 s]) ∧ w.grownBy w' none :=
  (sums_any c m k g r bank a s f w HA hg hf).mono fun _ _ ⟨h1, k, h2⟩ => ⟨h1, by rw [h2]; exact gb_drewN (gb_refl _ _) _⟩

theorem Cr.At.mono {w : World} {c m n n' : Nat} {r bank : Int} {f : Int → Int × Int} (h : Cr.At w c m n r bank f) (hn : n ≤ n') : Cr.At w c m n' r bank f :=
  ⟨h.c0, h.c1, h.c2, h.f2, h.s.mono hn, h.ne⟩

theorem worth_eq {r t : Int} (hr : 131072 ≤ r) (t0 : 0 ≤ t) (t1 : t ≤ 1000000) : Cr.worth r t = t * 1048576 * 1048576 / r / 1048576 := by
  have h1 : 0 ≤ t * 1048576 * 1048576 / r := Int.ediv_nonneg (by omega) (by omega)
  have h2 : t * 1048576 * 1048576 / r ≤ t * 1048576 * 1048576 := Int.ediv_le_self _ (by omega)
  unfold Cr.worth Fx.int Fx.div Fx.whole
  rw [Fx.sat_eq (x := t * 1048576) (by omega) (by omega), if_neg (by omega), Int.fdiv_eq_ediv_of_nonneg _ (by omega), Fx.sat_eq (by omega) (by omega)]
theorem worth_range {r t : Int} (hr : 131072 ≤ r) (t0 : 0 ≤ t) (t1 : t ≤ 1000000) : 0 ≤ Cr.worth r t ∧ Cr.worth r t ≤ 8000000 := by
  rw [worth_eq hr t0 t1]
  have h1 : 0 ≤ t * 1048576 * 1048576 / r := Int.ediv_nonneg (by omega) (by omega)
  have h2 : t * 1048576 * 1048576 / r < 8000001 * 1048576 := by
    refine Int.ediv_lt_of_lt_mul (by omega) ?_
    have := Int.mul_le_mul_of_nonneg_left hr (show (0 : Int) ≤ 8000001 * 1048576 by omega)
    omega
  omega
theorem worth_mono {r t q : Int} (hr : 131072 ≤ r) (t0 : 0 ≤ t) (h : t ≤ q) (t1 : q ≤ 1000000) : Cr.worth r t ≤ Cr.worth r q := by
  rw [worth_eq hr t0 (by omega), worth_eq hr (by omega) t1]
  have := Int.ediv_le_ediv (c := r) (a := t * 1048576 * 1048576) (b := q * 1048576 * 1048576) (by omega) (by omega)
  omega

set_option maxRecDepth 100000 in
set_option maxHeartbeats 4000000 in
theorem creditBounds_core (a1 u r : Int) (s : Option Addr) (len cap : Nat) (kd nn : Nat → Int) (w : World) (hu : bits .and .i64 a1 67108863 = u) (u0 : 0 ≤ u) (u1 : u ≤ 67108863) (hr : 131072 + u = r)
    (hs : Hid ((s = none ∧ len = 0) ∨ ∃ x, s = some x ∧ len ≤ cap ∧ ∀ i, i < len → w.cell? (x.add (i * 3)) = some (.int .i64 (kd i)) ∧ w.cell? ⟨(x.add (i * 3)).block, (x.add (i * 3)).off + 2, none⟩ = some (.int .i64 (nn i)))) :
    Calls Try.prog 13 #[.int .i64 a1, .slice s len cap] w fun e w' => e = .returned (.bool true) ∧ Below w.heap.size w w' := by
  go_enter Try.func13, Try.ntmps13
  go_wp2_with fail
  refine (new_any _ _).mono ?_; rintro e w1 ⟨c, m, rfl, h1, hc, hm, g1⟩
  have C1 := Lib.hid h1
  have B1 := Lib.hid (gb_below (gb_any g1 (some m)) hm (Nat.le_refl _))
  clear h1 g1
  go_wp2_with fail
  go_loopw [7] (fun i wr => ∃ k : Nat, ∃ f : Int → Int × Int, ∃ a t : Int, k ≤ 60 ∧ i = .int .i64 k ∧ Hid (f 0 = (a, t)) ∧ 0 ≤ a ∧ a ≤ 300 * k ∧ 0 ≤ t ∧ t ≤ 300 * k ∧ Hid (a ≤ 64 + Cr.worth r t) ∧ Hid (Cr.At wr c m k r 0 f) ∧ Hid (Below w.heap.size w wr)) (fun i _ => (60 - intOf i).toNat)
  case atStart => exact ⟨0, fun _ => (0, 0), 0, 0, by omega, rfl, Lib.hid rfl, by omega, by omega, by omega, by omega, Lib.hid (by have := (worth_range (r := r) (t := 0) (by omega) (by omega) (by omega)).1; omega), C1, B1⟩
  case round =>
    obtain ⟨k, f, a, t, hk, rfl, hf, a0, a1', t0, t1, hb, CR, BR⟩ := hrel
    clear C1 B1
    by_cases hlt : k < len ∧ k < 60
    · obtain ⟨hkl, hk2⟩ := hlt
      obtain ⟨x, rfl, hlc, hx⟩ : ∃ x, s = some x ∧ len ≤ cap ∧ ∀ i, i < len → w.cell? (x.add (i * 3)) = some (.int .i64 (kd i)) ∧ w.cell? ⟨(x.add (i * 3)).block, (x.add (i * 3)).off + 2, none⟩ = some (.int .i64 (nn i)) := by
        rcases hs.out with ⟨_, h⟩ | h
        · omega
        · exact h
      have cx := cell_in BR.out (hx k hkl).1
      have cy := cell_in BR.out (hx k hkl).2
      have hk3 : (k : Int) < 60 := by omega
      have hk0 : (0 : Int) ≤ k := by omega
      have hkl' : (k : Int) < len := by omega
      have HX := Lib.hid hx
      clear hx hs
      obtain ⟨n, hn, n0, n1⟩ := utmod (nn k) 301 (by omega)
      have b0 := worth_range (r := r) (t := t) (by omega) t0 (by omega)
      obtain ⟨p, hp⟩ : ∃ p, Cr.worth r t = p := ⟨_, rfl⟩
      have hb' := hb.out
      rw [hp] at hb' b0
      have HP := Lib.hid hp
      clear hp hb
      obtain ⟨b, hq⟩ : ∃ b, (bits .and .i64 (kd k) 3 == 3) = b := ⟨_, rfl⟩
      cases b
      · by_cases hal : a + n ≤ 64 + p
        · have hal' : a + n ≤ 64 + p := hal
          go_wp2_with fail
          refine (sums_gb c m _ _ _ _ a t _ _ CR (in_hid (by omega) (by omega)) hf).mono ?_; rintro e w2 ⟨rfl, g2⟩
          have C2 := Lib.hid (CR.out.grown g2)
          have B2 := Lib.hid (BR.out.trans (gb_below (B := w.heap.size) (gb_any g2 (some m)) hm BR.out.size))
          clear g2 CR BR
          go_wp2_with fail
          refine (alloc_yes c m k _ _ _ _ a t (a + n) (64 + p) _ _ C2 (by omega) (in_hid (by omega) (by omega)) hf (in_hid (by omega) (by omega)) (in_hid (by omega) (by omega)) ⟨by omega, by omega⟩ (by omega) (by omega) (add_hid rfl (by omega) (by omega)) (Lib.hid (by rw [HP.out]; exact (add_hid (a := 64) (b := p) rfl (by omega) (by omega)).out)) (.inr hal')).mono ?_; rintro e w3 ⟨rfl, h3, g3⟩
          have C3 := Lib.hid h3
          have B3 := Lib.hid (B2.out.trans (gb_below (B := w.heap.size) g3 hm B2.out.size))
          clear g3 h3 C2 B2
          go_wp2_with fail
          refine (sums_gb c m _ _ _ _ (a + n) t _ _ C3 (in_hid (by omega) (by omega)) (Lib.hid Cr.upd_same)).mono ?_; rintro e w4 ⟨rfl, g4⟩
          obtain ⟨F, A, T, hF, A0, A1, T0, T1, AP, C9, B9⟩ : ∃ (F : Int → Int × Int) (A T : Int), Hid (F 0 = (A, T)) ∧ 0 ≤ A ∧ A ≤ 300 * ((k + 1 : Nat) : Int) ∧ 0 ≤ T ∧ T ≤ 300 * ((k + 1 : Nat) : Int) ∧ Hid (A ≤ 64 + Cr.worth r T) ∧ Hid (Cr.At w4 c m (k + 1) r 0 F) ∧ Hid (Below w.heap.size w w4) :=
            ⟨_, a + n, t, Lib.hid Cr.upd_same, by omega, by omega, t0, by omega, Lib.hid (by rw [HP.out]; exact hal'), Lib.hid (C3.out.grown g4), Lib.hid (B3.out.trans (gb_below (B := w.heap.size) (gb_any g4 (some m)) hm B3.out.size))⟩
          clear g4 C3 B3
          go_wp2_with fail
          refine (sums_gb c m _ _ _ _ A T _ _ C9 (in_hid (by omega) (by omega)) hF).mono ?_; rintro e w5 ⟨rfl, g5⟩
          have C5 := Lib.hid (C9.out.grown g5)
          have B5 := Lib.hid (B9.out.trans (gb_below (B := w.heap.size) (gb_any g5 (some m)) hm B9.out.size))
          clear g5 C9 B9
          have q0 := worth_range (r := r) (t := T) (by omega) T0 (by omega)
          obtain ⟨q, hqq⟩ : ∃ q, Cr.worth r T = q := ⟨_, rfl⟩
          have AP' := AP.out
          rw [hqq] at AP' q0
          have HQ := Lib.hid hqq
          clear hqq
          go_wp2_with fail
          refine (whole_at _ (Fx.whole T) _ (in_mk (by omega) (by omega)) rfl).mono ?_; rintro e w' ⟨rfl, rfl⟩
          go_wp2_with fail
          refine (div_at _ _ (Fx.div (Fx.whole T) r) _ (in_sat _) (in_mk (by omega) (by omega)) rfl).mono ?_; rintro e w' ⟨rfl, k5, rfl⟩
          have C6 := Lib.hid (C5.out.grown (gb_drewN (gb_refl w5 none) k5))
          have B6 := Lib.hid (B5.out.trans (gb_below (B := w.heap.size) (gb_drewN (gb_refl w5 (some m)) k5) hm B5.out.size))
          clear C5 B5
          go_wp2_with fail
          refine (int_at _ q _ HQ.out).mono ?_; rintro e w' ⟨rfl, rfl⟩
          go_wp2_with fail
          go_roundw
          case rel => exact ⟨k + 1, F, A, T, by omega, by go_num, hF, A0, A1, T0, T1, AP, C6, B6⟩
          case measure => simp [intOf]; omega
        · have hal' : 64 + p < a + n := by omega
          go_wp2_with fail
          refine (sums_gb c m _ _ _ _ a t _ _ CR (in_hid (by omega) (by omega)) hf).mono ?_; rintro e w2 ⟨rfl, g2⟩
          have C2 := Lib.hid (CR.out.grown g2)
          have B2 := Lib.hid (BR.out.trans (gb_below (B := w.heap.size) (gb_any g2 (some m)) hm BR.out.size))
          clear g2 CR BR
          go_wp2_with fail
          refine (alloc_no c m k _ _ _ _ a t (a + n) (64 + p) _ _ C2 (in_hid (by omega) (by omega)) hf (in_hid (by omega) (by omega)) (in_hid (by omega) (by omega)) (by omega) (by omega) (by omega) (by omega) (add_hid rfl (by omega) (by omega)) (Lib.hid (by rw [HP.out]; exact (add_hid (a := 64) (b := p) rfl (by omega) (by omega)).out)) hal').mono ?_; rintro e w3 ⟨rfl, g3⟩
          have C3 := Lib.hid (C2.out.grown g3)
          have B3 := Lib.hid (B2.out.trans (gb_below (B := w.heap.size) (gb_any g3 (some m)) hm B2.out.size))
          clear g3 C2 B2
          go_wp2_with fail
          refine (sums_gb c m _ _ _ _ a t _ _ C3 (in_hid (by omega) (by omega)) hf).mono ?_; rintro e w4 ⟨rfl, g4⟩
          obtain ⟨F, A, T, hF, A0, A1, T0, T1, AP, C9, B9⟩ : ∃ (F : Int → Int × Int) (A T : Int), Hid (F 0 = (A, T)) ∧ 0 ≤ A ∧ A ≤ 300 * ((k + 1 : Nat) : Int) ∧ 0 ≤ T ∧ T ≤ 300 * ((k + 1 : Nat) : Int) ∧ Hid (A ≤ 64 + Cr.worth r T) ∧ Hid (Cr.At w4 c m (k + 1) r 0 F) ∧ Hid (Below w.heap.size w w4) :=
            ⟨_, a, t, hf, a0, by omega, t0, by omega, Lib.hid (by rw [HP.out]; exact hb'), Lib.hid ((C3.out.grown g4).mono (Nat.le_succ k)), Lib.hid (B3.out.trans (gb_below (B := w.heap.size) (gb_any g4 (some m)) hm B3.out.size))⟩
          clear g4 C3 B3
          go_wp2_with fail
          refine (sums_gb c m _ _ _ _ A T _ _ C9 (in_hid (by omega) (by omega)) hF).mono ?_; rintro e w5 ⟨rfl, g5⟩
          have C5 := Lib.hid (C9.out.grown g5)
          have B5 := Lib.hid (B9.out.trans (gb_below (B := w.heap.size) (gb_any g5 (some m)) hm B9.out.size))
          clear g5 C9 B9
          have q0 := worth_range (r := r) (t := T) (by omega) T0 (by omega)
          obtain ⟨q, hqq⟩ : ∃ q, Cr.worth r T = q := ⟨_, rfl⟩
          have AP' := AP.out
          rw [hqq] at AP' q0
          have HQ := Lib.hid hqq
          clear hqq
          go_wp2_with fail
          refine (whole_at _ (Fx.whole T) _ (in_mk (by omega) (by omega)) rfl).mono ?_; rintro e w' ⟨rfl, rfl⟩
          go_wp2_with fail
          refine (div_at _ _ (Fx.div (Fx.whole T) r) _ (in_sat _) (in_mk (by omega) (by omega)) rfl).mono ?_; rintro e w' ⟨rfl, k5, rfl⟩
          have C6 := Lib.hid (C5.out.grown (gb_drewN (gb_refl w5 none) k5))
          have B6 := Lib.hid (B5.out.trans (gb_below (B := w.heap.size) (gb_drewN (gb_refl w5 (some m)) k5) hm B5.out.size))
          clear C5 B5
          go_wp2_with fail
          refine (int_at _ q _ HQ.out).mono ?_; rintro e w' ⟨rfl, rfl⟩
          go_wp2_with fail
          go_roundw
          case rel => exact ⟨k + 1, F, A, T, by omega, by go_num, hF, A0, A1, T0, T1, AP, C6, B6⟩
          case measure => simp [intOf]; omega
      · by_cases hn0 : n = 0
        · obtain rfl : n = 0 := hn0
          go_wp2_with fail
          refine (scan_no c _ _ _ (by omega)).mono ?_; rintro e w' ⟨rfl, rfl⟩
          obtain ⟨F, A, T, hF, A0, A1, T0, T1, AP, C9, B9⟩ : ∃ (F : Int → Int × Int) (A T : Int), Hid (F 0 = (A, T)) ∧ 0 ≤ A ∧ A ≤ 300 * ((k + 1 : Nat) : Int) ∧ 0 ≤ T ∧ T ≤ 300 * ((k + 1 : Nat) : Int) ∧ Hid (A ≤ 64 + Cr.worth r T) ∧ Hid (Cr.At wr c m (k + 1) r 0 F) ∧ Hid (Below w.heap.size w wr) :=
            ⟨_, a, t, hf, a0, by omega, t0, by omega, Lib.hid (by rw [HP.out]; exact hb'), Lib.hid (CR.out.mono (Nat.le_succ k)), BR⟩
          clear CR BR
          go_wp2_with fail
          refine (sums_gb c m _ _ _ _ A T _ _ C9 (in_hid (by omega) (by omega)) hF).mono ?_; rintro e w5 ⟨rfl, g5⟩
          have C5 := Lib.hid (C9.out.grown g5)
          have B5 := Lib.hid (B9.out.trans (gb_below (B := w.heap.size) (gb_any g5 (some m)) hm B9.out.size))
          clear g5 C9 B9
          have q0 := worth_range (r := r) (t := T) (by omega) T0 (by omega)
          obtain ⟨q, hqq⟩ : ∃ q, Cr.worth r T = q := ⟨_, rfl⟩
          have AP' := AP.out
          rw [hqq] at AP' q0
          have HQ := Lib.hid hqq
          clear hqq
          go_wp2_with fail
          refine (whole_at _ (Fx.whole T) _ (in_mk (by omega) (by omega)) rfl).mono ?_; rintro e w' ⟨rfl, rfl⟩
          go_wp2_with fail
          refine (div_at _ _ (Fx.div (Fx.whole T) r) _ (in_sat _) (in_mk (by omega) (by omega)) rfl).mono ?_; rintro e w' ⟨rfl, k5, rfl⟩
          have C6 := Lib.hid (C5.out.grown (gb_drewN (gb_refl w5 none) k5))
          have B6 := Lib.hid (B5.out.trans (gb_below (B := w.heap.size) (gb_drewN (gb_refl w5 (some m)) k5) hm B5.out.size))
          clear C5 B5
          go_wp2_with fail
          refine (int_at _ q _ HQ.out).mono ?_; rintro e w' ⟨rfl, rfl⟩
          go_wp2_with fail
          go_roundw
          case rel => exact ⟨k + 1, F, A, T, by omega, by go_num, hF, A0, A1, T0, T1, AP, C6, B6⟩
          case measure => simp [intOf]; omega
        · have hn2 : 0 < n := by omega
          go_wp2_with fail
          refine (scan_yes c m k _ _ _ _ a t _ _ CR (by omega) (in_hid (by omega) (by omega)) hf (in_hid (by omega) (by omega)) hn2 (by omega)).mono ?_; rintro e w4 ⟨rfl, h4, g4⟩
          have ht : Fx.add t n = t + n := (add_hid rfl (by omega) (by omega)).out
          have wm := worth_mono (r := r) (t := t) (q := t + n) (by omega) t0 (by omega) (by omega)
          obtain ⟨F, A, T, hF, A0, A1, T0, T1, AP, C9, B9⟩ : ∃ (F : Int → Int × Int) (A T : Int), Hid (F 0 = (A, T)) ∧ 0 ≤ A ∧ A ≤ 300 * ((k + 1 : Nat) : Int) ∧ 0 ≤ T ∧ T ≤ 300 * ((k + 1 : Nat) : Int) ∧ Hid (A ≤ 64 + Cr.worth r T) ∧ Hid (Cr.At w4 c m (k + 1) r 0 F) ∧ Hid (Below w.heap.size w w4) :=
            ⟨_, a, t + n, Lib.hid (by rw [Cr.upd_same, ht]), a0, by omega, by omega, by omega, Lib.hid (by have := HP.out; omega), Lib.hid h4, Lib.hid (BR.out.trans (gb_below (B := w.heap.size) g4 hm BR.out.size))⟩
          clear g4 h4 CR BR ht wm
          go_wp2_with fail
          refine (sums_gb c m _ _ _ _ A T _ _ C9 (in_hid (by omega) (by omega)) hF).mono ?_; rintro e w5 ⟨rfl, g5⟩
          have C5 := Lib.hid (C9.out.grown g5)
          have B5 := Lib.hid (B9.out.trans (gb_below (B := w.heap.size) (gb_any g5 (some m)) hm B9.out.size))
          clear g5 C9 B9
          have q0 := worth_range (r := r) (t := T) (by omega) T0 (by omega)
          obtain ⟨q, hqq⟩ : ∃ q, Cr.worth r T = q := ⟨_, rfl⟩
          have AP' := AP.out
          rw [hqq] at AP' q0
          have HQ := Lib.hid hqq
          clear hqq
          go_wp2_with fail
          refine (whole_at _ (Fx.whole T) _ (in_mk (by omega) (by omega)) rfl).mono ?_; rintro e w' ⟨rfl, rfl⟩
          go_wp2_with fail
          refine (div_at _ _ (Fx.div (Fx.whole T) r) _ (in_sat _) (in_mk (by omega) (by omega)) rfl).mono ?_; rintro e w' ⟨rfl, k5, rfl⟩
          have C6 := Lib.hid (C5.out.grown (gb_drewN (gb_refl w5 none) k5))
          have B6 := Lib.hid (B5.out.trans (gb_below (B := w.heap.size) (gb_drewN (gb_refl w5 (some m)) k5) hm B5.out.size))
          clear C5 B5
          go_wp2_with fail
          refine (int_at _ q _ HQ.out).mono ?_; rintro e w' ⟨rfl, rfl⟩
          go_wp2_with fail
          go_roundw
          case rel => exact ⟨k + 1, F, A, T, by omega, by go_num, hF, A0, A1, T0, T1, AP, C6, B6⟩
          case measure => simp [intOf]; omega
    · by_cases hkl : k < len
      all_goals
        have hk2 : ¬ ((k : Int) < 60) ∨ ¬ (k < len) := by omega
        go_wp2_with fail
        refine (told22_any _).mono ?_; rintro e w9 ⟨rfl, g9⟩
        go_wp2_with fail
        go_ret
        exact ⟨rfl, BR.out.trans (gb_below (B := w.heap.size) (gb_any g9 (some m)) hm BR.out.size)⟩

theorem mask26 (n : Int) : bits .and .i64 n 67108863 = n % 67108864 := by
  have hm : (BitVec.ofInt 64 67108863).toNat = 2 ^ 26 - 1 := by decide
  have key : (BitVec.ofInt 64 n &&& BitVec.ofInt 64 67108863).toNat = (n % ((2 ^ 64 : Nat) : Int)).toNat % 2 ^ 26 := by
    rw [BitVec.toNat_and, BitVec.toNat_ofInt, hm, Nat.and_two_pow_sub_one_eq_mod]
  show IntKind.i64.wrap ((BitVec.ofInt 64 n &&& BitVec.ofInt 64 67108863).toNat : Nat) = n % 67108864
  rw [key, IntKind.wrap_i64]
  omega

theorem creditBounds_walk (a1 : Int) (s : Option Addr) (len cap : Nat) (kd nn : Nat → Int) (w : World)
    (hs : (s = none ∧ len = 0) ∨ ∃ x, s = some x ∧ len ≤ cap ∧ ∀ i, i < len → w.cell? (x.add (i * 3)) = some (.int .i64 (kd i)) ∧ w.cell? ⟨(x.add (i * 3)).block, (x.add (i * 3)).off + 2, none⟩ = some (.int .i64 (nn i))) :
    Calls Try.prog 13 #[.int .i64 a1, .slice s len cap] w fun e w' => e = .returned (.bool true) ∧ Below w.heap.size w w' :=
  creditBounds_core a1 (a1 % 67108864) _ s len cap kd nn w (mask26 a1) (by omega) (by omega) rfl (Lib.hid hs)
end Go.Proofs.Ytflfhjemblhafaa
