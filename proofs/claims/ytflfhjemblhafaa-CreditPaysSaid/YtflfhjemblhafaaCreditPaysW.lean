/-
  THE WALK of treadmilllaw22.CreditPays: what is owed, once it is scanned, lets one word more be allocated; one word of scanning less does not.
-/
import Derived.Test.YtflfhjemblhafaaCredit5
namespace Go.Proofs.Ytflfhjemblhafaa
open Go.RowKit

/-- A number as an unsigned one, modulo another. -/
theorem utmod (a m : Int) (hm : 0 < m) : ∃ x, (IntKind.u64.wrap a).tmod m = x ∧ 0 ≤ x ∧ x < m := by
  refine ⟨_, rfl, ?_, ?_⟩
  · rw [u64_wrap, Int.tmod_eq_emod_of_nonneg (by omega)]; exact Int.emod_nonneg _ (by omega)
  · rw [u64_wrap, Int.tmod_eq_emod_of_nonneg (by omega)]; exact Int.emod_lt_of_pos _ hm

theorem in_hid {a : Int} (h1 : -9223372036854775808 ≤ a) (h2 : a ≤ 9223372036854775807) : Hid (In a) := Lib.hid ⟨h1, h2⟩
theorem add_hid {a b r : Int} (h : a + b = r) (h1 : -9223372036854775808 ≤ r) (h2 : r ≤ 9223372036854775807) : Hid (Fx.add a b = r) := Lib.hid (by unfold Fx.add; rw [h]; exact Fx.sat_eq h1 h2)
theorem sums_gb (c m k : Nat) (g r bank a s : Int) (f : Int → Int × Int) (w : World) (HA : Hid (Cr.At w c m k r bank f)) (hg : Hid (In g)) (hf : Hid (f g = (a, s))) :
    Calls Try.prog 35 #[.pointer (some ⟨c, 0, none⟩), .int .i64 g] w fun e w' => e = .returned (.tuple #[.int .i64 a, .int .i64 s]) ∧ w.grownBy w' none :=
  (sums_any c m k g r bank a s f w HA hg hf).mono fun _ _ ⟨h1, k, h2⟩ => ⟨h1, by rw [h2]; exact gb_drewN (gb_refl _ _) _⟩

theorem mask26 (n : Int) : bits .and .i64 n 67108863 = n % 67108864 := by
  have hm : (BitVec.ofInt 64 67108863).toNat = 2 ^ 26 - 1 := by decide
  have key : (BitVec.ofInt 64 n &&& BitVec.ofInt 64 67108863).toNat = (n % ((2 ^ 64 : Nat) : Int)).toNat % 2 ^ 26 := by
    rw [BitVec.toNat_and, BitVec.toNat_ofInt, hm, Nat.and_two_pow_sub_one_eq_mod]
  show IntKind.i64.wrap ((BitVec.ofInt 64 n &&& BitVec.ofInt 64 67108863).toNat : Nat) = n % 67108864
  rw [key, IntKind.wrap_i64]
  omega


theorem div_gb (a b r : Int) (w : World) (ha : In a) (hb : In b) (h : Fx.div a b = r) : Calls Try.prog 25 #[.int .i64 a, .int .i64 b] w fun e w' => e = .returned (.int .i64 r) ∧ w.grownBy w' none :=
  (div_at a b r w ha hb h).mono fun _ _ ⟨h1, k, h2⟩ => ⟨h1, by rw [h2]; exact gb_drewN (gb_refl _ _) _⟩

theorem Cr.At.mono {w : World} {c m n n' : Nat} {r bank : Int} {f : Int → Int × Int} (h : Cr.At w c m n r bank f) (hn : n ≤ n') : Cr.At w c m n' r bank f :=
  ⟨h.c0, h.c1, h.c2, h.f2, h.s.mono hn, h.ne⟩

/-! ### the plain law -/
theorem sat_up {a b : Int} (h : a ≤ b) : Fx.sat a ≤ Fx.sat b := by unfold Fx.sat; repeat' split <;> omega
theorem worth_up {r t q : Int} (hr : 0 < r) (h : t ≤ q) : Cr.worth r t ≤ Cr.worth r q := by
  have h1 : Fx.whole t ≤ Fx.whole q := sat_up (by omega)
  have h2 : (Fx.whole t * 1048576).fdiv r ≤ (Fx.whole q * 1048576).fdiv r := by
    rw [Int.fdiv_eq_ediv_of_nonneg _ (by omega), Int.fdiv_eq_ediv_of_nonneg _ (by omega)]
    exact Int.ediv_le_ediv hr (by omega)
  have h3 : Fx.div (Fx.whole t) r ≤ Fx.div (Fx.whole q) r := by
    unfold Fx.div
    rw [if_neg (by omega), if_neg (by omega)]
    exact sat_up h2
  unfold Cr.worth Fx.int
  omega
theorem worth_is {r t : Int} (hr : 131072 ≤ r) (t0 : 0 ≤ t) (t1 : t ≤ 8000000) : Cr.worth r t = t * 1048576 * 1048576 / r / 1048576 := by
  have h1 : 0 ≤ t * 1048576 * 1048576 / r := Int.ediv_nonneg (by omega) (by omega)
  have h2 : t * 1048576 * 1048576 / r ≤ 70368744177664 := by
    refine Int.le_of_lt_add_one (Int.ediv_lt_of_lt_mul (by omega) ?_)
    have := Int.mul_le_mul_of_nonneg_left hr (show (0 : Int) ≤ 70368744177665 by omega)
    omega
  unfold Cr.worth Fx.int Fx.div Fx.whole
  rw [Fx.sat_eq (x := t * 1048576) (by omega) (by omega), if_neg (by omega), Int.fdiv_eq_ediv_of_nonneg _ (by omega), Fx.sat_eq (by omega) (by omega)]
theorem worth_box {r t : Int} (hr : 131072 ≤ r) (t0 : 0 ≤ t) (t1 : t ≤ 8000000) : 0 ≤ Cr.worth r t ∧ Cr.worth r t ≤ 67108864 := by
  rw [worth_is hr t0 t1]
  have h1 : 0 ≤ t * 1048576 * 1048576 / r := Int.ediv_nonneg (by omega) (by omega)
  have h2 : t * 1048576 * 1048576 / r ≤ 70368744177664 := by
    refine Int.le_of_lt_add_one (Int.ediv_lt_of_lt_mul (by omega) ?_)
    have := Int.mul_le_mul_of_nonneg_left hr (show (0 : Int) ≤ 70368744177665 by omega)
    omega
  omega
theorem worth_step {r t : Int} (hr : 131072 ≤ r) (hr2 : r ≤ 67239935) (t0 : 0 ≤ t) (t1 : t ≤ 7000000) : Cr.worth r t + 1 ≤ Cr.worth r (t + 65) := by
  rw [worth_is hr t0 (by omega), worth_is hr (by omega) (by omega)]
  have h1 : (t * 1048576 * 1048576 + 1048576 * r) / r ≤ (t + 65) * 1048576 * 1048576 / r := Int.ediv_le_ediv (by omega) (by omega)
  rw [Int.add_mul_ediv_right _ _ (by omega)] at h1
  omega
theorem worth_start {r K : Int} (hr : 131072 ≤ r) (hr2 : r ≤ 67239935) (k0 : 65 ≤ K) (k1 : K ≤ 100000) : K ≤ Cr.worth r (70 * K) := by
  rw [worth_is hr (by omega) (by omega)]
  have h1 : K * 1048576 ≤ 70 * K * 1048576 * 1048576 / r := by
    refine Int.le_ediv_of_mul_le (by omega) ?_
    have := Int.mul_le_mul_of_nonneg_left hr2 (show 0 ≤ K * 1048576 by omega)
    omega
  omega
theorem least {p : Int → Prop} : ∀ n : Nat, ¬ p 0 → p n → ∃ o : Int, 1 ≤ o ∧ o ≤ n ∧ p o ∧ ¬ p (o - 1)
  | 0, h0, hn => absurd hn h0
  | n + 1, h0, hn => by
    by_cases h : p n
    · obtain ⟨o, h1, h2, h3, h4⟩ := least n h0 h
      exact ⟨o, h1, by omega, h3, h4⟩
    · exact ⟨((n + 1 : Nat) : Int), by omega, by omega, hn, by rw [show ((n + 1 : Nat) : Int) - 1 = n by omega]; exact h⟩

structure PaysAt (r s p o L M : Int) : Prop where
  hp : Cr.worth r s = p
  he : ∀ v, 0 ≤ v → v ≤ 9223372036854775807 → Cr.en r s (p + 1) v = decide (o ≤ v)
  hL : Cr.worth r (s + (o - 1)) = L
  hM : Cr.worth r (s + o) = M
  o1 : 1 ≤ o
  o2 : o ≤ 65
  l0 : 0 ≤ L
  l1 : L ≤ p
  m0 : p + 1 ≤ M
  m1 : M ≤ 67108864

theorem pays_at {r s : Int} (hr : 131072 ≤ r) (hr2 : r ≤ 67239935) (s0 : 0 ≤ s) (s1 : s ≤ 7000000) : ∃ o, PaysAt r s (Cr.worth r s) o (Cr.worth r (s + (o - 1))) (Cr.worth r (s + o)) := by
  have hs : ∀ v, 0 ≤ v → v ≤ 1000 → Fx.add s v = s + v := fun v h1 h2 => Fx.sat_eq (by omega) (by omega)
  obtain ⟨o, o1, o2, h1, h2⟩ := least (p := fun v => Cr.worth r s + 1 ≤ Cr.worth r (Fx.add s v)) 65 (by rw [hs 0 (by omega) (by omega), Int.add_zero]; omega) (by
    have := worth_step hr hr2 s0 s1
    rw [← hs 65 (by omega) (by omega)] at this
    exact this)
  have h2' : ¬ Cr.worth r s + 1 ≤ Cr.worth r (Fx.add s (o - 1)) := h2
  have up : ∀ a b, a ≤ b → Cr.worth r (Fx.add s a) ≤ Cr.worth r (Fx.add s b) := fun a b h => worth_up (by omega) (sat_up (by omega))
  refine ⟨o, rfl, fun v v0 v1 => ?_, rfl, rfl, o1, by omega, (worth_box hr (by omega) (by omega)).1, ?_, ?_, (worth_box hr (by omega) (by omega)).2⟩
  · unfold Cr.en
    by_cases h : o ≤ v
    · rw [decide_eq_true h]
      exact decide_eq_true (Int.le_trans h1 (up _ _ h))
    · rw [decide_eq_false h]
      exact decide_eq_false (fun h3 => h2' (Int.le_trans h3 (up _ _ (by omega))))
  · rw [hs (o - 1) (by omega) (by omega)] at h2'; omega
  · rw [← hs o (by omega) (by omega)]; exact h1

set_option maxRecDepth 100000 in
set_option maxHeartbeats 4000000 in
theorem creditPays_core (a1 a2 u r q K s p o L M : Int) (w : World) (hu : bits .and .i64 a1 67108863 = u) (u0 : 0 ≤ u) (u1 : u ≤ 67108863) (hr : 131072 + u = r) (hq : (IntKind.u64.wrap a2).tmod 99936 = q) (q0 : 0 ≤ q) (q1 : q ≤ 99935) (hK : 65 + q = K) (hs : 70 * K = s)
    (H : Hid (PaysAt r s p o L M)) (kp : K ≤ p) (p1 : p ≤ 67108864) (o1 : 1 ≤ o) (o2 : o ≤ 65) (l0 : 0 ≤ L) (l1 : L ≤ p) (m0 : p + 1 ≤ M) (m1 : M ≤ 67108864) :
    Calls Try.prog 15 #[.int .i64 a1, .int .i64 a2] w fun e w' => e = .returned (.bool true) ∧ Below w.heap.size w w' := by
  go_enter Try.func15, Try.ntmps15
  go_wp2_with fail
  refine (new_any _ _).mono ?_; rintro e w1 ⟨c, m, rfl, h1, hc, hm, g1⟩
  have hc1 := h1.lt
  have hm1 := h1.s.lt
  have C1 := Lib.hid h1
  have g1s := g1.size
  have B1 := Lib.hid (gb_below (gb_any g1 (some m)) hm (Nat.le_refl _))
  clear h1 g1
  go_wp2_with fail
  refine (new_any _ _).mono ?_; rintro e w2 ⟨d, e, rfl, h2, hd, he, g2⟩
  have D2 := Lib.hid h2
  have C2 := Lib.hid (C1.out.grown g2)
  have B2 := Lib.hid (B1.out.trans (gb_below (B := w.heap.size) (gb_any g2 (some m)) hm g1s))
  have hd' : w.heap.size ≤ d := Nat.le_trans g1s hd
  have he' : w.heap.size ≤ e := Nat.le_trans g1s he
  clear h2 C1 g2 B1
  have hadd0 : Fx.add 0 s = s := (add_hid (Int.zero_add _) (by omega) (by omega)).out
  have HA0 := Lib.hid hadd0
  clear hadd0
  go_wp2_with fail
  refine (scan_yes c m _ _ s _ _ 0 0 _ _ C2 (by omega) (in_hid (by omega) (by omega)) (Lib.hid rfl) (in_hid (by omega) (by omega)) (by omega) (by omega)).mono ?_; rintro e3 w3 ⟨rfl, hh, gg⟩
  have C3 := Lib.hid hh
  have D3 := Lib.hid (D2.out.kept gg (by omega) (by omega))
  have B3 := Lib.hid (B2.out.trans (gb_below (B := w.heap.size) gg hm B2.out.size))
  clear hh gg C2 D2 B2
  go_wp2_with fail
  refine (scan_yes d e _ _ s _ _ 0 0 _ _ D3 (by omega) (in_hid (by omega) (by omega)) (Lib.hid rfl) (in_hid (by omega) (by omega)) (by omega) (by omega)).mono ?_; rintro e3 w4 ⟨rfl, hh, gg⟩
  have D4 := Lib.hid hh
  have C4 := Lib.hid (C3.out.kept gg (by omega) (by omega))
  have B4 := Lib.hid (B3.out.trans (gb_below (B := w.heap.size) gg he' B3.out.size))
  clear hh gg C3 D3 B3
  go_wp2_with fail
  refine (alloc_yes c m _ _ K _ _ 0 s K (64 + p) _ _ C4 (by omega) (in_hid (by omega) (by omega)) (Lib.hid (by rw [Cr.upd_same, HA0.out])) (in_hid (by omega) (by omega)) (in_hid (by omega) (by omega)) ⟨by omega, by omega⟩ (by omega) (by omega) (add_hid (by omega) (by omega) (by omega)) (Lib.hid (by rw [H.out.hp]; exact (add_hid (a := 64) (b := p) rfl (by omega) (by omega)).out)) (.inr (by omega))).mono ?_; rintro e3 w5 ⟨rfl, hh, gg⟩
  have C5 := Lib.hid hh
  have D5 := Lib.hid (D4.out.kept gg (by omega) (by omega))
  have B5 := Lib.hid (B4.out.trans (gb_below (B := w.heap.size) gg hm B4.out.size))
  clear hh gg C4 D4 B4
  go_wp2_with fail
  refine (alloc_yes d e _ _ K _ _ 0 s K (64 + p) _ _ D5 (by omega) (in_hid (by omega) (by omega)) (Lib.hid (by rw [Cr.upd_same, HA0.out])) (in_hid (by omega) (by omega)) (in_hid (by omega) (by omega)) ⟨by omega, by omega⟩ (by omega) (by omega) (add_hid (by omega) (by omega) (by omega)) (Lib.hid (by rw [H.out.hp]; exact (add_hid (a := 64) (b := p) rfl (by omega) (by omega)).out)) (.inr (by omega))).mono ?_; rintro e3 w6 ⟨rfl, hh, gg⟩
  have D6 := Lib.hid hh
  have C6 := Lib.hid (C5.out.kept gg (by omega) (by omega))
  have B6 := Lib.hid (B5.out.trans (gb_below (B := w.heap.size) gg he' B5.out.size))
  clear hh gg C5 D5 B5
  go_wp2_with fail
  refine (sums_gb c m _ _ _ _ K s _ _ C6 (in_hid (by omega) (by omega)) (Lib.hid Cr.upd_same)).mono ?_; rintro e3 w7 ⟨rfl, gg⟩
  have C7 := Lib.hid (C6.out.grown gg)
  have D7 := Lib.hid (D6.out.grown gg)
  have B7 := Lib.hid (B6.out.trans (gb_below (B := w.heap.size) (gb_any gg (some m)) hm B6.out.size))
  clear gg C6 D6 B6
  go_wp2_with fail
  refine (whole_at _ (Fx.whole s) _ (in_mk (by omega) (by omega)) rfl).mono ?_; rintro e w' ⟨rfl, rfl⟩
  go_wp2_with fail
  refine (div_gb _ _ (Fx.div (Fx.whole s) r) _ (in_sat _) (in_mk (by omega) (by omega)) rfl).mono ?_; rintro e3 w8 ⟨rfl, gg⟩
  have C8 := Lib.hid (C7.out.grown gg)
  have D8 := Lib.hid (D7.out.grown gg)
  have B8 := Lib.hid (B7.out.trans (gb_below (B := w.heap.size) (gb_any gg (some m)) hm B7.out.size))
  clear gg C7 D7 B7
  go_wp2_with fail
  refine (int_at _ p _ H.out.hp).mono ?_; rintro e w' ⟨rfl, rfl⟩
  go_wp2_with fail
  refine (alloc_yes c m _ _ _ _ _ K s (64 + p) (64 + p) _ _ C8 (by omega) (in_hid (by omega) (by omega)) (Lib.hid Cr.upd_same) (in_hid (by omega) (by omega)) (in_hid (by omega) (by omega)) ⟨by omega, by omega⟩ (by omega) (by omega) (add_hid (by omega) (by omega) (by omega)) (Lib.hid (by rw [H.out.hp]; exact (add_hid (a := 64) (b := p) rfl (by omega) (by omega)).out)) (.inr (by omega))).mono ?_; rintro e3 w9 ⟨rfl, hh, gg⟩
  have C9 := Lib.hid hh
  have D9 := Lib.hid (D8.out.kept gg (by omega) (by omega))
  have B9 := Lib.hid (B8.out.trans (gb_below (B := w.heap.size) gg hm B8.out.size))
  clear hh gg C8 D8 B8
  go_wp2_with fail
  refine (alloc_yes d e _ _ _ _ _ K s (64 + p) (64 + p) _ _ D9 (by omega) (in_hid (by omega) (by omega)) (Lib.hid Cr.upd_same) (in_hid (by omega) (by omega)) (in_hid (by omega) (by omega)) ⟨by omega, by omega⟩ (by omega) (by omega) (add_hid (by omega) (by omega) (by omega)) (Lib.hid (by rw [H.out.hp]; exact (add_hid (a := 64) (b := p) rfl (by omega) (by omega)).out)) (.inr (by omega))).mono ?_; rintro e3 w10 ⟨rfl, hh, gg⟩
  have D10 := Lib.hid hh
  have C10 := Lib.hid (C9.out.kept gg (by omega) (by omega))
  have B10 := Lib.hid (B9.out.trans (gb_below (B := w.heap.size) gg he' B9.out.size))
  clear hh gg C9 D9 B9
  go_wp2_with fail
  refine (alloc_no c m _ _ _ _ _ (64 + p) s (64 + p + 1) (64 + p) _ _ C10 (in_hid (by omega) (by omega)) (Lib.hid Cr.upd_same) (in_hid (by omega) (by omega)) (in_hid (by omega) (by omega)) (by omega) (by omega) (by omega) (by omega) (add_hid (by omega) (by omega) (by omega)) (Lib.hid (by rw [H.out.hp]; exact (add_hid (a := 64) (b := p) rfl (by omega) (by omega)).out)) (by omega)).mono ?_; rintro e3 w11 ⟨rfl, gg⟩
  have C11 := Lib.hid (C10.out.grown gg)
  have D11 := Lib.hid (D10.out.grown gg)
  have B11 := Lib.hid (B10.out.trans (gb_below (B := w.heap.size) (gb_any gg (some m)) hm B10.out.size))
  clear gg C10 D10 B10
  go_wp2_with fail
  refine (owed_is c m _ _ r 0 (64 + p) s o _ _ ⟨C11.out, trivial, trivial⟩ (Lib.hid ⟨in_mk (by omega) (by omega), Cr.upd_same, by omega, by omega, by omega, by omega, in_mk (by omega) (by omega), by omega, by omega, fun v h1 h2 => by rw [show 64 + p - 63 = p + 1 by omega]; exact H.out.he v h1 h2⟩)).mono ?_; rintro e3 w12 ⟨rfl, gg⟩
  have C12 := Lib.hid (C11.out.grown gg)
  have D12 := Lib.hid (D11.out.grown gg)
  have B12 := Lib.hid (B11.out.trans (gb_below (B := w.heap.size) (gb_any gg (some m)) hm B11.out.size))
  clear gg C11 D11 B11
  go_wp2_with fail
  refine (owed_is d e _ _ r 0 (64 + p) s o _ _ ⟨D12.out, trivial, trivial⟩ (Lib.hid ⟨in_mk (by omega) (by omega), Cr.upd_same, by omega, by omega, by omega, by omega, in_mk (by omega) (by omega), by omega, by omega, fun v h1 h2 => by rw [show 64 + p - 63 = p + 1 by omega]; exact H.out.he v h1 h2⟩)).mono ?_; rintro e3 w13 ⟨rfl, gg⟩
  have C13 := Lib.hid (C12.out.grown gg)
  have D13 := Lib.hid (D12.out.grown gg)
  have B13 := Lib.hid (B12.out.trans (gb_below (B := w.heap.size) (gb_any gg (some m)) hm B12.out.size))
  clear gg C12 D12 B12
  go_wp2_with fail
  obtain hoo | hoo : o = 1 ∨ 1 < o := by omega
  · have HOO := Lib.hid hoo
    clear hoo
    refine (scan_no d _ _ _ (by have := HOO.out; omega)).mono ?_; rintro e3 w' ⟨rfl, rfl⟩
    obtain ⟨F, hF, D14, C14, B14⟩ : ∃ F : Int → Int × Int, Hid (F 0 = (64 + p, s + (o - 1))) ∧ Hid (Cr.At w13 d e 4 r 0 F) ∧ Hid (Cr.At w13 c m 3 r 0 (Cr.upd (Cr.upd (Cr.upd (fun _ => (0, 0)) 0 0 (Fx.add 0 s)) 0 K s) 0 (64 + p) s)) ∧ Hid (Below w.heap.size w w13) := ⟨_, Lib.hid (by rw [show s + (o - 1) = s by have := HOO.out; omega]; exact Cr.upd_same), Lib.hid (D13.out.mono (Nat.le_succ 3)), C13, B13⟩
    clear C13 D13 B13
    go_wp2_with fail
    refine (alloc_no d e _ _ 1 _ _ (64 + p) (s + (o - 1)) (64 + p + 1) (64 + L) _ _ D14 (in_hid (by omega) (by omega)) hF (in_hid (by omega) (by omega)) (in_hid (by omega) (by omega)) (by omega) (by omega) (by omega) (by omega) (add_hid (by omega) (by omega) (by omega)) (Lib.hid (by rw [H.out.hL]; exact (add_hid (a := 64) (b := L) rfl (by omega) (by omega)).out)) (by omega)).mono ?_; rintro e3 w15 ⟨rfl, gg⟩
    have C15 := Lib.hid (C14.out.grown gg)
    have B15 := Lib.hid (B14.out.trans (gb_below (B := w.heap.size) (gb_any gg (some m)) hm B14.out.size))
    clear gg C14 D14 B14
    go_wp2_with fail
    refine (bank_any c m _ r 0 (o + 5) _ _ C15 (by omega) (by omega) (by omega) (by omega)).mono ?_; rintro e3 w16 ⟨rfl, C16, gg⟩
    have B16 := Lib.hid (B15.out.trans (gb_below (B := w.heap.size) gg hc B15.out.size))
    clear gg C15 B15
    go_wp2_with fail
    have HO : Hid (Cr.Owes 0 r (64 + p) s o (Cr.upd (Cr.upd (Cr.upd (fun _ => (0, 0)) 0 0 (Fx.add 0 s)) 0 K s) 0 (64 + p) s)) := Lib.hid ⟨in_mk (by omega) (by omega), Cr.upd_same, by omega, by omega, by omega, by omega, in_mk (by omega) (by omega), by omega, by omega, fun v h1 h2 => by rw [show 64 + p - 63 = p + 1 by omega]; exact H.out.he v h1 h2⟩
    refine (steal_some c m _ w.heap.size _ r (0 + (o + 5)) (64 + p) s o _ _ C16 HO (by omega) (by omega) (by omega) (by omega) (by omega) hc hm).mono ?_; rintro e3 w17 ⟨rfl, C17, B17'⟩
    have B17 := Lib.hid (B16.out.trans B17'.out)
    have e5 : 0 + (o + 5) - o = 5 := by omega
    have eso : Fx.add s o = s + o := (add_hid rfl (by omega) (by omega)).out
    rw [e5, eso] at C17
    clear e5 eso HO C16 B16 B17'
    go_wp2_with fail
    refine (told22_any _).mono ?_; rintro e3 w18 ⟨rfl, gg⟩
    have C18 := Lib.hid (C17.out.grown gg)
    have B18 := Lib.hid (B17.out.trans (gb_below (B := w.heap.size) (gb_any gg (some m)) hm B17.out.size))
    clear gg C17 B17
    go_wp2_with fail
    refine (banked_any c m _ r 5 _ _ C18).mono ?_; rintro e3 w' ⟨rfl, rfl⟩
    go_wp2_with fail
    refine (owed_paid c m _ _ r 5 (64 + p) (s + o) _ _ C18 (in_hid (by omega) (by omega)) (Lib.hid Cr.upd_same) (by omega) (by omega) (by omega) (by omega) (in_hid (by omega) (by omega)) (Lib.hid (by unfold Cr.en; rw [(add_hid (a := s + o) (b := 0) (Int.add_zero _) (by omega) (by omega)).out, H.out.hM]; exact decide_eq_true (by omega)))).mono ?_; rintro e3 w19 ⟨rfl, gg⟩
    have C19 := Lib.hid (C18.out.grown gg)
    have B19 := Lib.hid (B18.out.trans (gb_below (B := w.heap.size) (gb_any gg (some m)) hm B18.out.size))
    clear gg C18 B18
    go_wp2_with fail
    refine (alloc_yes c m _ _ 1 _ _ (64 + p) (s + o) (64 + p + 1) (64 + M) _ _ C19 (by omega) (in_hid (by omega) (by omega)) (Lib.hid Cr.upd_same) (in_hid (by omega) (by omega)) (in_hid (by omega) (by omega)) ⟨by omega, by omega⟩ (by omega) (by omega) (add_hid (by omega) (by omega) (by omega)) (Lib.hid (by rw [H.out.hM]; exact (add_hid (a := 64) (b := M) rfl (by omega) (by omega)).out)) (.inr (by omega))).mono ?_; rintro e3 w20 ⟨rfl, hh, gg⟩
    have B20 := Lib.hid (B19.out.trans (gb_below (B := w.heap.size) gg hm B19.out.size))
    clear gg hh C19 B19
    go_wp2_with fail
    go_ret
    exact ⟨rfl, B20.out⟩
  · refine (scan_yes d e _ _ (o - 1) _ _ (64 + p) s _ _ D13 (by omega) (in_hid (by omega) (by omega)) (Lib.hid Cr.upd_same) (in_hid (by omega) (by omega)) (by omega) (by omega)).mono ?_; rintro e3 w14 ⟨rfl, hh, gg⟩
    obtain ⟨F, hF, D14, C14, B14⟩ : ∃ F : Int → Int × Int, Hid (F 0 = (64 + p, s + (o - 1))) ∧ Hid (Cr.At w14 d e 4 r 0 F) ∧ Hid (Cr.At w14 c m 3 r 0 (Cr.upd (Cr.upd (Cr.upd (fun _ => (0, 0)) 0 0 (Fx.add 0 s)) 0 K s) 0 (64 + p) s)) ∧ Hid (Below w.heap.size w w14) := ⟨_, Lib.hid (by rw [Cr.upd_same, (add_hid (a := s) (b := o - 1) rfl (by omega) (by omega)).out]), Lib.hid hh, Lib.hid (C13.out.kept gg (by omega) (by omega)), Lib.hid (B13.out.trans (gb_below (B := w.heap.size) gg he' B13.out.size))⟩
    clear hh gg C13 D13 B13
    go_wp2_with fail
    refine (alloc_no d e _ _ 1 _ _ (64 + p) (s + (o - 1)) (64 + p + 1) (64 + L) _ _ D14 (in_hid (by omega) (by omega)) hF (in_hid (by omega) (by omega)) (in_hid (by omega) (by omega)) (by omega) (by omega) (by omega) (by omega) (add_hid (by omega) (by omega) (by omega)) (Lib.hid (by rw [H.out.hL]; exact (add_hid (a := 64) (b := L) rfl (by omega) (by omega)).out)) (by omega)).mono ?_; rintro e3 w15 ⟨rfl, gg⟩
    have C15 := Lib.hid (C14.out.grown gg)
    have B15 := Lib.hid (B14.out.trans (gb_below (B := w.heap.size) (gb_any gg (some m)) hm B14.out.size))
    clear gg C14 D14 B14
    go_wp2_with fail
    refine (bank_any c m _ r 0 (o + 5) _ _ C15 (by omega) (by omega) (by omega) (by omega)).mono ?_; rintro e3 w16 ⟨rfl, C16, gg⟩
    have B16 := Lib.hid (B15.out.trans (gb_below (B := w.heap.size) gg hc B15.out.size))
    clear gg C15 B15
    go_wp2_with fail
    have HO : Hid (Cr.Owes 0 r (64 + p) s o (Cr.upd (Cr.upd (Cr.upd (fun _ => (0, 0)) 0 0 (Fx.add 0 s)) 0 K s) 0 (64 + p) s)) := Lib.hid ⟨in_mk (by omega) (by omega), Cr.upd_same, by omega, by omega, by omega, by omega, in_mk (by omega) (by omega), by omega, by omega, fun v h1 h2 => by rw [show 64 + p - 63 = p + 1 by omega]; exact H.out.he v h1 h2⟩
    refine (steal_some c m _ w.heap.size _ r (0 + (o + 5)) (64 + p) s o _ _ C16 HO (by omega) (by omega) (by omega) (by omega) (by omega) hc hm).mono ?_; rintro e3 w17 ⟨rfl, C17, B17'⟩
    have B17 := Lib.hid (B16.out.trans B17'.out)
    have e5 : 0 + (o + 5) - o = 5 := by omega
    have eso : Fx.add s o = s + o := (add_hid rfl (by omega) (by omega)).out
    rw [e5, eso] at C17
    clear e5 eso HO C16 B16 B17'
    go_wp2_with fail
    refine (told22_any _).mono ?_; rintro e3 w18 ⟨rfl, gg⟩
    have C18 := Lib.hid (C17.out.grown gg)
    have B18 := Lib.hid (B17.out.trans (gb_below (B := w.heap.size) (gb_any gg (some m)) hm B17.out.size))
    clear gg C17 B17
    go_wp2_with fail
    refine (banked_any c m _ r 5 _ _ C18).mono ?_; rintro e3 w' ⟨rfl, rfl⟩
    go_wp2_with fail
    refine (owed_paid c m _ _ r 5 (64 + p) (s + o) _ _ C18 (in_hid (by omega) (by omega)) (Lib.hid Cr.upd_same) (by omega) (by omega) (by omega) (by omega) (in_hid (by omega) (by omega)) (Lib.hid (by unfold Cr.en; rw [(add_hid (a := s + o) (b := 0) (Int.add_zero _) (by omega) (by omega)).out, H.out.hM]; exact decide_eq_true (by omega)))).mono ?_; rintro e3 w19 ⟨rfl, gg⟩
    have C19 := Lib.hid (C18.out.grown gg)
    have B19 := Lib.hid (B18.out.trans (gb_below (B := w.heap.size) (gb_any gg (some m)) hm B18.out.size))
    clear gg C18 B18
    go_wp2_with fail
    refine (alloc_yes c m _ _ 1 _ _ (64 + p) (s + o) (64 + p + 1) (64 + M) _ _ C19 (by omega) (in_hid (by omega) (by omega)) (Lib.hid Cr.upd_same) (in_hid (by omega) (by omega)) (in_hid (by omega) (by omega)) ⟨by omega, by omega⟩ (by omega) (by omega) (add_hid (by omega) (by omega) (by omega)) (Lib.hid (by rw [H.out.hM]; exact (add_hid (a := 64) (b := M) rfl (by omega) (by omega)).out)) (.inr (by omega))).mono ?_; rintro e3 w20 ⟨rfl, hh, gg⟩
    have B20 := Lib.hid (B19.out.trans (gb_below (B := w.heap.size) gg hm B19.out.size))
    clear gg hh C19 B19
    go_wp2_with fail
    go_ret
    exact ⟨rfl, B20.out⟩

theorem creditPays_walk (a1 a2 : Int) (w : World) (_b1 : -9223372036854775808 ≤ a1) (_b2 : a1 ≤ 9223372036854775807) (_b3 : -9223372036854775808 ≤ a2) (_b4 : a2 ≤ 9223372036854775807) :
    Calls Try.prog 15 #[.int .i64 a1, .int .i64 a2] w fun e w' => e = .returned (.bool true) ∧ Below w.heap.size w w' := by
  obtain ⟨q, hq, q0, q1⟩ := utmod a2 99936 (by omega)
  obtain ⟨r, hr⟩ : ∃ r, 131072 + a1 % 67108864 = r := ⟨_, rfl⟩
  obtain ⟨K, hK⟩ : ∃ K, 65 + q = K := ⟨_, rfl⟩
  obtain ⟨o, H⟩ := pays_at (r := r) (s := 70 * K) (by omega) (by omega) (by omega) (by omega)
  have kp := worth_start (r := r) (K := K) (by omega) (by omega) (by omega) (by omega)
  have pb := worth_box (r := r) (t := 70 * K) (by omega) (by omega) (by omega)
  exact creditPays_core a1 a2 _ r q K (70 * K) _ o _ _ w (mask26 a1) (by omega) (by omega) hr hq q0 (by omega) hK rfl (Lib.hid H) kp pb.2 H.o1 H.o2 H.l0 H.l1 H.m0 H.m1
end Go.Proofs.Ytflfhjemblhafaa
