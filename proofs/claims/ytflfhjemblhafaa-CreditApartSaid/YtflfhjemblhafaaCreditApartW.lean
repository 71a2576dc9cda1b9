/-
  THE WALK of treadmilllaw22.CreditApart: goroutines' credits are apart; where there is no ratio all may allocate; words below none are nothing.
-/
import Derived.Test.YtflfhjemblhafaaCredit3
namespace Go.Proofs.Ytflfhjemblhafaa
open Go.RowKit

/-- A number as an unsigned one, modulo another. -/
theorem utmod (a m : Int) (hm : 0 < m) : ∃ x, (IntKind.u64.wrap a).tmod m = x ∧ 0 ≤ x ∧ x < m := by
  refine ⟨_, rfl, ?_, ?_⟩
  · rw [u64_wrap, Int.tmod_eq_emod_of_nonneg (by omega)]; exact Int.emod_nonneg _ (by omega)
  · rw [u64_wrap, Int.tmod_eq_emod_of_nonneg (by omega)]; exact Int.emod_lt_of_pos _ hm

theorem next_sum (k : Nat) : (k : Int) * 1099511627776 + 1099511627776 = ((k + 1 : Nat) : Int) * 1099511627776 := by omega
theorem in_hid {a : Int} (h1 : -9223372036854775808 ≤ a) (h2 : a ≤ 9223372036854775807) : Hid (In a) := Lib.hid ⟨h1, h2⟩
theorem add_hid {a b r : Int} (h : a + b = r) (h1 : -9223372036854775808 ≤ r) (h2 : r ≤ 9223372036854775807) : Hid (Fx.add a b = r) := Lib.hid (by unfold Fx.add; rw [h]; exact Fx.sat_eq h1 h2)

theorem sums_gb (c m k : Nat) (g r bank a s : Int) (f : Int → Int × Int) (w : World) (HA : Hid (Cr.At w c m k r bank f)) (hg : Hid (In g)) (hf : Hid (f g = (a, s))) :
    Calls Try.prog 35 #[.pointer (some ⟨c, 0, none⟩), .int .i64 g] w fun e w' => e = .returned (.tuple #[.int .i64 a, .int .i64 s]) ∧ w.grownBy w' none :=
  (sums_any c m k g r bank a s f w HA hg hf).mono fun _ _ ⟨h1, k, h2⟩ => ⟨h1, by rw [h2]; exact gb_drewN (gb_refl _ _) _⟩

set_option maxRecDepth 100000 in
set_option maxHeartbeats 4000000 in
theorem creditApart_core (a1 a2 a3 x y : Int) (w : World) (hx : (IntKind.u64.wrap a1).tmod 65 = x) (x0 : 0 ≤ x) (x1 : x ≤ 64) (hy : (IntKind.u64.wrap a2).tmod 65 = y) (y0 : 0 ≤ y) (y1 : y ≤ 64) (b1 : -9223372036854775808 ≤ a3) (b2 : a3 ≤ 9223372036854775807) :
    Calls Try.prog 14 #[.int .i64 a1, .int .i64 a2, .int .i64 a3] w fun e w' => e = .returned (.bool true) ∧ Below w.heap.size w w' := by
  go_enter Try.func14, Try.ntmps14
  go_wp2_with fail
  refine (new_any _ _).mono ?_; rintro e w1 ⟨c, m, rfl, h1, hc, hm, g1⟩
  have hc1 := h1.lt
  have C1 := Lib.hid h1
  clear h1
  go_wp2_with fail
  all_goals
    refine (new_any _ _).mono ?_; rintro e w2 ⟨d, e, rfl, h2, hd, he, g2⟩
    obtain ⟨z, D2, z0, z1⟩ : ∃ z, Hid (Cr.At w2 d e 0 z 0 fun _ => (0, 0)) ∧ z ≤ 0 ∧ -9223372036854775808 ≤ z ∧ z ≤ 9223372036854775807 := ⟨_, Lib.hid h2, by first | omega | (simp only [wrap64] at *; omega), by first | omega | (simp only [wrap64] at *; omega)⟩
    have hm1 := C1.out.s.lt
    have C2 := Lib.hid (C1.out.grown g2)
    have B2 := Lib.hid (gb_trans g1 g2)
    have g1s := g1.size
    have g2s := g2.size
    clear h2 C1 g1 g2
    go_wp2_with fail
    refine (alloc_yes c m _ _ _ _ _ 0 0 x 64 _ _ C2 (by omega) (in_hid (by omega) (by omega)) (Lib.hid rfl) (in_hid (by omega) (by omega)) (in_hid (by omega) (by omega)) ⟨by omega, by omega⟩ (by omega) (by omega) (add_hid (by omega) (by omega) (by omega)) (Lib.hid (by decide +kernel)) (.inr (by omega))).mono ?_; rintro e w3 ⟨rfl, h3, g3⟩
    have C3 := Lib.hid h3
    have D3 := Lib.hid (D2.out.kept g3 (by omega) (by omega))
    have G3 := Lib.hid g3
    clear h3 g3 C2 D2
    go_wp2_with fail
    refine (alloc_yes c m _ _ _ _ _ 0 0 y 64 _ _ C3 (by omega) (in_hid (by omega) (by omega)) (Lib.hid rfl) (in_hid (by omega) (by omega)) (in_hid (by omega) (by omega)) ⟨by omega, by omega⟩ (by omega) (by omega) (add_hid (by omega) (by omega) (by omega)) (Lib.hid (by decide +kernel)) (.inr (by omega))).mono ?_; rintro e w4 ⟨rfl, h4, g4⟩
    have C4 := Lib.hid h4
    have D4 := Lib.hid (D3.out.kept g4 (by omega) (by omega))
    have G4 := Lib.hid (gb_trans G3.out g4)
    clear h4 g4 C3 D3 G3
    go_wp2_with fail
    refine (alloc_neg c _ _ _ (by omega)).mono ?_; rintro e w' ⟨rfl, rfl⟩
    go_wp2_with fail
    refine (scan_yes c m _ _ _ _ _ x 0 _ _ C4 (by omega) (in_hid (by omega) (by omega)) (Lib.hid rfl) (in_hid (by omega) (by omega)) (by omega) (by omega)).mono ?_; rintro e w5 ⟨rfl, h5, g5⟩
    have C5 := Lib.hid h5
    have D5 := Lib.hid (D4.out.kept g5 (by omega) (by omega))
    have G5 := Lib.hid (gb_trans G4.out g5)
    clear h5 g5 C4 D4 G4
    go_wp2_with fail
    refine (scan_no c _ _ _ (by omega)).mono ?_; rintro e w' ⟨rfl, rfl⟩
    go_wp2_with fail
    refine (sums_gb c m _ _ _ _ x 1000 _ _ C5 (in_hid (by omega) (by omega)) (Lib.hid rfl)).mono ?_; rintro e w6 ⟨rfl, g6⟩
    have C6 := Lib.hid (C5.out.grown g6)
    have D6 := Lib.hid (D5.out.grown g6)
    have G6 := Lib.hid (gb_trans G5.out (gb_any g6 _))
    clear g6 C5 D5 G5
    go_wp2_with fail
    refine (sums_gb c m _ _ _ _ y 0 _ _ C6 (in_hid (by omega) (by omega)) (Lib.hid rfl)).mono ?_; rintro e w7 ⟨rfl, g7⟩
    have C7 := Lib.hid (C6.out.grown g7)
    have D7 := Lib.hid (D6.out.grown g7)
    have G7 := Lib.hid (gb_trans G6.out (gb_any g7 _))
    clear g7 C6 D6 G6
    go_wp2_with fail
    refine (sums_gb c m _ _ _ _ 0 0 _ _ C7 (in_hid (by omega) (by omega)) (Lib.hid rfl)).mono ?_; rintro e w8 ⟨rfl, g8⟩
    have C8 := Lib.hid (C7.out.grown g8)
    have D8 := Lib.hid (D7.out.grown g8)
    have B8 := Lib.hid ((gb_below (gb_any B2.out (some m)) (by omega) (Nat.le_refl _)).trans (gb_below (B := w.heap.size) (gb_trans G7.out (gb_any g8 _)) (by omega) (Nat.le_trans g1s g2s)))
    clear g8 C7 D7 G7 B2
    go_wp2_with fail
    go_loopw [17] (fun i wr => ∃ k : Nat, ∃ fd : Int → Int × Int, k ≤ 5 ∧ i = .int .i64 k ∧ Hid (fd 0 = ((k : Int) * 1099511627776, 0)) ∧ Hid (Cr.At wr c m 3 1048576 0 (Cr.upd (Cr.upd (Cr.upd (fun _ => (0, 0)) 1 x 0) 2 y 0) 1 x (Fx.add 0 1000))) ∧ Hid (Cr.At wr d e k z 0 fd) ∧ Hid (Below w.heap.size w wr)) (fun i _ => (5 - intOf i).toNat)
    case atStart => exact ⟨0, fun _ => (0, 0), by omega, rfl, Lib.hid rfl, C8, D8, B8⟩
    case round =>
      obtain ⟨k, fd, hk, rfl, hfd, CR, DR, BR⟩ := hrel
      clear C8 D8 B8
      by_cases hlt : k < 5
      · have hlt' : (k : Int) < 5 := by omega
        have HN := Lib.hid (next_sum k)
        go_wp2_with fail
        refine (alloc_yes d e k _ _ _ _ ((k : Int) * 1099511627776) 0 ((k : Int) * 1099511627776 + 1099511627776) _ _ _ DR (by omega) (in_hid (by omega) (by omega)) hfd (in_hid (by omega) (by omega)) (in_hid (by omega) (by omega)) ⟨by omega, by omega⟩ (by omega) (by omega) (add_hid rfl (by omega) (by omega)) (Lib.hid rfl) (.inl z0)).mono ?_; rintro e3 w9 ⟨rfl, h9, g9⟩
        have D9 := Lib.hid h9
        have C9 := Lib.hid (CR.out.kept g9 (by omega) (by omega))
        have B9 := Lib.hid (BR.out.trans (gb_below (B := w.heap.size) g9 (by omega) BR.out.size))
        clear h9 g9 DR CR BR
        go_wp2_with fail
        refine (owed_off d e _ _ _ _ _ _ D9 z0).mono ?_; rintro e3 w10 ⟨rfl, g10⟩
        have D10 := Lib.hid (D9.out.grown g10)
        have C10 := Lib.hid (C9.out.grown g10)
        have B10 := Lib.hid (B9.out.trans (gb_below (B := w.heap.size) (gb_any g10 (some e)) (by omega) B9.out.size))
        clear g10 D9 C9 B9
        go_wp2_with fail
        refine (steal_off d e _ _ _ _ _ D10 z0).mono ?_; rintro e3 w11 ⟨rfl, h11, g11⟩
        have D11 := Lib.hid h11
        have C11 := Lib.hid (C10.out.kept g11 (by omega) (by omega))
        have B11 := Lib.hid (B10.out.trans (gb_below (B := w.heap.size) g11 (by omega) B10.out.size))
        clear h11 g11 D10 C10 B10
        go_wp2_with fail
        go_roundw
        case rel => exact ⟨k + 1, _, by omega, by go_num, Lib.hid (by rw [Cr.upd_same, HN.out]), C11, D11, B11⟩
        case measure => simp [intOf]; omega
      · have hlt' : ¬ (k : Int) < 5 := by omega
        go_wp2_with fail
        refine (told22_any _).mono ?_; rintro e3 w9 ⟨rfl, g9⟩
        have C9 := Lib.hid (CR.out.grown g9)
        have B9 := Lib.hid (BR.out.trans (gb_below (B := w.heap.size) (gb_any g9 (some m)) (by omega) BR.out.size))
        clear g9 DR CR BR
        go_wp2_with fail
        refine (alloc_yes c m _ _ _ _ _ x 1000 1064 1064 _ _ C9 (by omega) (in_hid (by omega) (by omega)) (Lib.hid rfl) (in_hid (by omega) (by omega)) (in_hid (by omega) (by omega)) ⟨by omega, by omega⟩ (by omega) (by omega) (add_hid (by omega) (by omega) (by omega)) (Lib.hid (by decide +kernel)) (.inr (by omega))).mono ?_; rintro e3 w10 ⟨rfl, h10, g10⟩
        have C10 := Lib.hid h10
        have B10 := Lib.hid (B9.out.trans (gb_below (B := w.heap.size) g10 (by omega) B9.out.size))
        clear h10 g10 C9 B9
        go_wp2_with fail
        refine (alloc_no c m _ _ _ _ _ 1064 1000 1065 1064 _ _ C10 (in_hid (by omega) (by omega)) (Lib.hid rfl) (in_hid (by omega) (by omega)) (in_hid (by omega) (by omega)) (by omega) (by omega) (by omega) (by omega) (add_hid (by omega) (by omega) (by omega)) (Lib.hid (by decide +kernel)) (by omega)).mono ?_; rintro e3 w11 ⟨rfl, g11⟩
        have C11 := Lib.hid (C10.out.grown g11)
        have B11 := Lib.hid (B10.out.trans (gb_below (B := w.heap.size) (gb_any g11 (some m)) (by omega) B10.out.size))
        clear g11 C10 B10
        go_wp2_with fail
        refine (alloc_no c m _ _ _ _ _ y 0 65 64 _ _ C11 (in_hid (by omega) (by omega)) (Lib.hid rfl) (in_hid (by omega) (by omega)) (in_hid (by omega) (by omega)) (by omega) (by omega) (by omega) (by omega) (add_hid (by omega) (by omega) (by omega)) (Lib.hid (by decide +kernel)) (by omega)).mono ?_; rintro e3 w12 ⟨rfl, g12⟩
        have C12 := Lib.hid (C11.out.grown g12)
        have B12 := Lib.hid (B11.out.trans (gb_below (B := w.heap.size) (gb_any g12 (some m)) (by omega) B11.out.size))
        clear g12 C11 B11
        go_wp2_with fail
        refine (alloc_yes c m _ _ _ _ _ y 0 64 64 _ _ C12 (by omega) (in_hid (by omega) (by omega)) (Lib.hid rfl) (in_hid (by omega) (by omega)) (in_hid (by omega) (by omega)) ⟨by omega, by omega⟩ (by omega) (by omega) (add_hid (by omega) (by omega) (by omega)) (Lib.hid (by decide +kernel)) (.inr (by omega))).mono ?_; rintro e3 w13 ⟨rfl, h13, g13⟩
        have B13 := Lib.hid (B12.out.trans (gb_below (B := w.heap.size) g13 (by omega) B12.out.size))
        clear h13 g13 C12 B12
        go_wp2_with fail
        go_ret
        exact ⟨rfl, B13.out⟩

theorem creditApart_walk (a1 a2 a3 : Int) (w : World) (_b1 : -9223372036854775808 ≤ a1) (_b2 : a1 ≤ 9223372036854775807) (_b3 : -9223372036854775808 ≤ a2) (_b4 : a2 ≤ 9223372036854775807) (b5 : -9223372036854775808 ≤ a3) (b6 : a3 ≤ 9223372036854775807) :
    Calls Try.prog 14 #[.int .i64 a1, .int .i64 a2, .int .i64 a3] w fun e w' => e = .returned (.bool true) ∧ Below w.heap.size w w' := by
  obtain ⟨x, hx, x0, x1⟩ := utmod a1 65 (by omega)
  obtain ⟨y, hy, y0, y1⟩ := utmod a2 65 (by omega)
  exact creditApart_core a1 a2 a3 x y w hx x0 (by omega) hy y0 (by omega) b5 b6
end Go.Proofs.Ytflfhjemblhafaa
