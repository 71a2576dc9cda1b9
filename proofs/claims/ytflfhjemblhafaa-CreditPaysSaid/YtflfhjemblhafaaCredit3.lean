/-
  THE WALKS of Steal (where nothing is owed) and of the laws' told.
-/
import Derived.Test.YtflfhjemblhafaaCredit2
import Derived.Deep.RegionHeld3
namespace Go.Proofs.Ytflfhjemblhafaa
open Go.RowKit

theorem Cr.At.grown {w w' : World} {c m n : Nat} {r bank : Int} {f : Int → Int × Int} (h : Cr.At w c m n r bank f) (hg : w.grownBy w' none) : Cr.At w' c m n r bank f :=
  have hb : Below w.heap.size w w' := ⟨hg.os, hg.tape, hg.output, hg.size, fun i hi => hg.block i hi (by simp)⟩
  have hf : ∀ o, w'.frozen? ⟨c, o, none⟩ = w.frozen? ⟨c, o, none⟩ := fun o => hb.frozen (p := ⟨c, o, none⟩) h.lt
  have hc : ∀ o, w'.cell? ⟨c, o, none⟩ = w.cell? ⟨c, o, none⟩ := fun o => hb.cell (p := ⟨c, o, none⟩) h.lt
  ⟨(hc 0).trans h.c0, (hc 1).trans h.c1, (hc 2).trans h.c2, (hf 2).trans h.f2, h.s.kept hg (by simp), h.ne⟩
theorem Cr.Sums.lt {w : World} {b n : Nat} {f : Int → Int × Int} (h : Cr.Sums w b n f) : b < w.heap.size := let ⟨_, h1, _⟩ := h; h1.lt
theorem gb_any {w w' : World} (h : w.grownBy w' none) (m : Option Nat) : w.grownBy w' m := ⟨h.os, h.tape, h.output, h.size, fun i hi _ => h.block i hi (by simp)⟩

set_option maxHeartbeats 2000000 in
theorem told22_any (w : World) : Calls Try.prog 37 #[] w fun e w' => e = .returned (.bool true) ∧ w.grownBy w' none := by
  go_enter Try.func37, Try.ntmps37
  go_wp2_with fail
  refine (new_any _ _).mono ?_; rintro e w1 ⟨c, m, rfl, h1, hc, hm, g1⟩
  have H1 := Lib.hid h1
  clear h1
  go_wp2_with fail
  refine (alloc_yes c m _ _ _ _ _ 0 0 64 64 _ _ H1 (by omega) (Lib.hid (in_mk (by omega) (by omega))) (Lib.hid rfl) (Lib.hid (in_mk (by omega) (by omega))) (Lib.hid (in_mk (by omega) (by omega))) ⟨by omega, by omega⟩ (by omega) (by omega) (Lib.hid (by decide)) (Lib.hid (by decide +kernel)) (.inr (by omega))).mono ?_; rintro e w2 ⟨rfl, h2, g2⟩
  have H2 := Lib.hid h2
  clear h2
  go_wp2_with fail
  refine (alloc_no c m _ _ _ _ _ 64 0 65 64 _ _ H2 (Lib.hid (in_mk (by omega) (by omega))) (Lib.hid Cr.upd_same) (Lib.hid (in_mk (by omega) (by omega))) (Lib.hid (in_mk (by omega) (by omega))) (by omega) (by omega) (by omega) (by omega) (Lib.hid (by decide)) (Lib.hid (by decide +kernel)) (by omega)).mono ?_; rintro e w3 ⟨rfl, g3⟩
  have H3 := Lib.hid (H2.out.grown g3)
  go_wp2_with fail
  refine (owed_none c m _ _ _ _ 64 0 _ _ H3 (Lib.hid (in_mk (by omega) (by omega))) (Lib.hid Cr.upd_same) (by omega) (by omega) (by omega)).mono ?_; rintro e w4 ⟨rfl, g4⟩
  have H4 := Lib.hid (H3.out.grown g4)
  go_wp2_with fail
  refine (scan_yes c m _ _ _ _ _ 64 0 _ _ H4 (by omega) (Lib.hid (in_mk (by omega) (by omega))) (Lib.hid Cr.upd_same) (Lib.hid (in_mk (by omega) (by omega))) (by omega) (by omega)).mono ?_; rintro e w5 ⟨rfl, h5, g5⟩
  have H5 := Lib.hid h5
  clear h5
  go_wp2_with fail
  refine (alloc_yes c m _ _ _ _ _ 64 2 65 65 _ _ H5 (by omega) (Lib.hid (in_mk (by omega) (by omega))) (Lib.hid Cr.upd_same) (Lib.hid (in_mk (by omega) (by omega))) (Lib.hid (in_mk (by omega) (by omega))) ⟨by omega, by omega⟩ (by omega) (by omega) (Lib.hid (by decide)) (Lib.hid (by decide +kernel)) (.inr (by omega))).mono ?_; rintro e w6 ⟨rfl, h6, g6⟩
  have H6 := Lib.hid h6
  clear h6
  go_wp2_with fail
  refine (sums_any c m _ _ _ _ 65 2 _ _ H6 (Lib.hid (in_mk (by omega) (by omega))) (Lib.hid Cr.upd_same)).mono ?_; rintro e w7 ⟨rfl, k7, rfl⟩
  go_wp2_with fail
  go_ret
  refine ⟨rfl, ?_⟩
  have gg := gb_trans (gb_trans (gb_any g1 (some m)) g2) (gb_trans (gb_any g3 (some m)) (gb_trans (gb_any g4 (some m)) (gb_trans g5 (gb_drewN g6 k7))))
  have := gb_below gg hm (Nat.le_refl _)
  exact ⟨this.os, this.tape, this.output, this.size, fun i hi _ => this.block i hi⟩

theorem steal_keep {c m k : Nat} {r : Int} {f : Int → Int × Int} {w0 w w' : World} (g : w.grownBy w' none) (h : Cr.At w c m k r 0 f ∧ w0.grownBy w none ∧ w.cell? ⟨c, 2, none⟩ = some (.int .i64 0)) :
    Cr.At w' c m k r 0 f ∧ w0.grownBy w' none ∧ w'.cell? ⟨c, 2, none⟩ = some (.int .i64 0) :=
  ⟨h.1.grown g, gb_trans h.2.1 g, (h.1.grown g).c2⟩

theorem owed_held (c m k : Nat) (g r : Int) (f : Int → Int × Int) (w : World) {p q : Prop} (HA : Cr.At w c m k r 0 f ∧ p ∧ q) (hr : r ≤ 0) :
    Calls Try.prog 38 #[.pointer (some ⟨c, 0, none⟩), .int .i64 g] w fun e w' => e = .returned (.int .i64 0) ∧ w.grownBy w' none := owed_off c m k g r 0 f w (Lib.hid HA.1) hr

theorem Cr.At.setBank {w : World} {c m k : Nat} {r bank x : Int} {f : Int → Int × Int} (h : Cr.At w c m k r bank f) : Cr.At (w.setCell ⟨c, 2, none⟩ (.int .i64 x)) c m k r x f := by
  have h0 := h.c0
  have h1 := h.c1
  have h2 := h.c2
  refine ⟨by simp [go_sem, *], by simp [go_sem, *], by simp [go_sem, *], by simp [go_sem]; exact h.f2, ?_, h.ne⟩
  obtain ⟨D, d1, d2⟩ := h.s
  exact ⟨D, d1.setCell (fun e => h.ne e.symm) _, d2⟩

set_option maxHeartbeats 2000000 in
theorem steal_off (c m k : Nat) (g r : Int) (f : Int → Int × Int) (w : World) (HA : Hid (Cr.At w c m k r 0 f)) (hr : r ≤ 0) :
    Calls Try.prog 39 #[.pointer (some ⟨c, 0, none⟩), .int .i64 g] w fun e w' => e = .returned (.int .i64 0) ∧ Cr.At w' c m k r 0 f ∧ w.grownBy w' (some c) := by
  go_enter Try.func39, Try.ntmps39
  go_wp2_with fail
  go_region_held3 (fun x => Cr.At x c m k r 0 f ∧ w.grownBy x none ∧ x.cell? ⟨c, 2, none⟩ = some (.int .i64 0)) (first | assumption | exact ⟨HA.out.grown (gb_drew (gb_refl w none)), gb_drew (gb_refl w none), HA.out.c2⟩ | exact steal_keep (by assumption) (by assumption))
    ((go_at_call 38; (with_reducible refine (owed_held c m k _ r f _ (by assumption) hr).mono ?_); rintro e w1 ⟨rfl, g1⟩))
  all_goals
    rename_i hh
    have HH := Lib.hid hh.1
    have HG := Lib.hid hh.2.1
    have hc2 := hh.2.2
    have hf2 := hh.1.f2
    clear hh
    go_wp2_with fail
    have HS : Cr.At (_ : World) c m k r 0 f := Cr.At.setBank HH.out
    refine (scan_no c _ _ _ (by omega)).mono ?_; rintro e w2 ⟨rfl, rfl⟩
    go_wp2_with fail
    go_ret
    exact ⟨rfl, HS, gb_setAt (gb_any HG.out _) rfl _⟩
end Go.Proofs.Ytflfhjemblhafaa
