/-
  THE WALKS of Owed (where something is owed), Bank, Banked and Steal.
-/
import Derived.Test.YtflfhjemblhafaaCredit3
namespace Go.Proofs.Ytflfhjemblhafaa
open Go.RowKit

theorem cell_none {a b : World} (h : a.grownBy b none) {p : Addr} {v : Value} (hc : a.cell? p = some v) : b.cell? p = some v :=
  (World.cell?_of_block (h.block p.block (World.block_lt_of_cell? a p hc) (by simp))).trans hc

/-- Are so many words more scanned enough? -/
def Cr.en (r s need v : Int) : Bool := decide (need ≤ Cr.worth r (Fx.add s v))

set_option maxHeartbeats 1000000 in
theorem en_any (c b1 b2 b3 : Nat) (r s need v : Int) (b : Bool) (w : World) (hb : Hid (Cr.en r s need v = b)) (hr : Hid (In r)) (hs : Hid (In s)) (hv : Hid (In v)) (h1 : w.cell? ⟨b1, 0, none⟩ = some (.pointer (some ⟨c, 0, none⟩))) (h2 : w.cell? ⟨b2, 1, none⟩ = some (.int .i64 s)) (h3 : w.cell? ⟨b3, 0, none⟩ = some (.int .i64 need))
    (c0 : Hid (w.cell? ⟨c, 0, none⟩ = some (.int .i64 r))) :
    Calls Try.prog 58 #[.int .i64 v, .pointer (some ⟨b1, 0, none⟩), .pointer (some ⟨b2, 0, none⟩), .pointer (some ⟨b3, 0, none⟩)] w fun e w' => e = .returned (.bool b) ∧ ∃ n, w' = w.drewN n := by
  go_enter Try.func58, Try.ntmps58
  go_wp2_with fail
  go_quiet ((first
    | (go_at_call 53; exact quiet_is (add_at _ _ (Fx.add s v) _ hs.out hv.out rfl))
    | (go_at_call 57; exact Calls.quiet_of (worth_any c r _ _ hr.out (in_sat _) c0.out))))
  go_wp2_with fail
  go_ret
  exact ⟨ret_bool hb.out, _, rfl⟩

/-- What the search stands on. -/
structure Cr.Ground (w : World) (c b1 b2 b3 : Nat) (r s need : Int) : Prop where
  h1 : w.cell? ⟨b1, 0, none⟩ = some (.pointer (some ⟨c, 0, none⟩))
  h2 : w.cell? ⟨b2, 1, none⟩ = some (.int .i64 s)
  h3 : w.cell? ⟨b3, 0, none⟩ = some (.int .i64 need)
  c0 : w.cell? ⟨c, 0, none⟩ = some (.int .i64 r)
  ir : In r
  is : In s

theorem en_at (c b1 b2 b3 : Nat) (r s need v : Int) (b : Bool) (w : World) (G : Hid (Cr.Ground w c b1 b2 b3 r s need)) (hb : Hid (Cr.en r s need v = b)) (hv : Hid (In v)) :
    Calls Try.prog 58 #[.int .i64 v, .pointer (some ⟨b1, 0, none⟩), .pointer (some ⟨b2, 0, none⟩), .pointer (some ⟨b3, 0, none⟩)] w fun e w' => e = .returned (.bool b) ∧ Hid (Cr.Ground w' c b1 b2 b3 r s need) ∧ w.grownBy w' none :=
  (en_any c b1 b2 b3 r s need v b w hb (Lib.hid G.out.ir) (Lib.hid G.out.is) hv G.out.h1 G.out.h2 G.out.h3 (Lib.hid G.out.c0)).mono fun _ _ ⟨e1, n, e2⟩ => by
    subst e2
    exact ⟨e1, Lib.hid ⟨G.out.h1, G.out.h2, G.out.h3, G.out.c0, G.out.ir, G.out.is⟩, gb_drewN (gb_refl _ _) _⟩

set_option maxHeartbeats 1000000 in
theorem owed_some (c m k : Nat) (g r bank a s o : Int) (f : Int → Int × Int) (w : World) (HA : Hid (Cr.At w c m k r bank f)) (hg : Hid (In g)) (hf : Hid (f g = (a, s))) (hr : 0 < r) (hr2 : r ≤ 9223372036854775807) (ha : 64 < a) (ha2 : a ≤ 1000000000) (hs : Hid (In s))
    (o1 : 1 ≤ o) (o2 : o ≤ 1000) (HE : Hid (∀ v, 0 ≤ v → v ≤ 9223372036854775807 → Cr.en r s (a - 63) v = decide (o ≤ v))) :
    Calls Try.prog 38 #[.pointer (some ⟨c, 0, none⟩), .int .i64 g] w fun e w' => e = .returned (.int .i64 o) ∧ w.grownBy w' none := by
  have hc0 := HA.out.c0
  have hc1 := HA.out.c1
  have hcl := HA.out.lt
  have hl := (HA.out.s.kept (gb_alloc (gb_refl w none) (.cells #[.pointer (some ⟨c, 0, none⟩)] 50)) (by simp)).look hg.out hf.out
  unfold Cr.pv at hl
  go_enter Try.func38, Try.ntmps38
  go_wp2_with fail
  refine (sub_at _ _ (a - 64) _ (in_mk (by omega) (by omega)) (in_mk (by omega) (by omega)) (Fx.sat_eq (by omega) (by omega))).mono ?_; rintro e w' ⟨rfl, rfl⟩
  go_wp2_with fail
  refine (add_at _ _ (a - 63) _ (in_mk (by omega) (by omega)) (in_mk (by omega) (by omega)) ((Fx.sat_eq (by omega) (by omega)).trans (by omega))).mono ?_; rintro e w' ⟨rfl, rfl⟩
  go_wp2_with fail
  have G0 : Hid (Cr.Ground (((w.alloc (.cells #[.pointer (some ⟨c, 0, none⟩)] 50)).alloc (.cells #[.int .i64 a, .int .i64 s] 71)).alloc (.cells #[.int .i64 (a - 63)] 2)) c w.heap.size (w.heap.size + 1) (w.heap.size + 1 + 1) r s (a - 63)) :=
    Lib.hid ⟨cell_none (gb_alloc (gb_alloc (gb_refl _ _) _) _) (World.cell?_alloc_new ..), cell_none (gb_alloc (gb_refl _ _) _) (World.cell?_alloc_at _ _ _ _ (by simp)), World.cell?_alloc_at _ _ _ _ (by simp), cell_none (gb_alloc (gb_alloc (gb_alloc (gb_refl _ _) _) _) _) hc0, in_mk (by omega) (by omega), hs.out⟩
  have Y0 : Hid (w.grownBy (((w.alloc (.cells #[.pointer (some ⟨c, 0, none⟩)] 50)).alloc (.cells #[.int .i64 a, .int .i64 s] 71)).alloc (.cells #[.int .i64 (a - 63)] 2)) none) := Lib.hid (gb_alloc (gb_alloc (gb_alloc (gb_refl _ _) _) _) _)
  clear hc0 hc1 hl
  refine (en_at c _ _ _ r s (a - 63) 0 false _ G0 (Lib.hid ((HE.out 0 (by omega) (by omega)).trans (decide_eq_false (by omega)))) (Lib.hid (in_mk (by omega) (by omega)))).mono ?_; rintro e w1 ⟨rfl, G1, g1⟩
  have Y1 := Lib.hid (gb_trans Y0.out g1)
  clear g1 Y0 G0
  go_wp2_with fail
  refine (en_at c _ _ _ r s (a - 63) 9223372036854775807 true _ G1 (Lib.hid ((HE.out 9223372036854775807 (by omega) (by omega)).trans (decide_eq_true (by omega)))) (Lib.hid (in_mk (by omega) (by omega)))).mono ?_; rintro e w2 ⟨rfl, G2, g2⟩
  have Y2 := Lib.hid (gb_trans Y1.out g2)
  clear g2 Y1 G1
  go_wp2_with fail
  go_loopw [8, 9] (fun lo hi wr => ∃ x y : Int, lo = .int .i64 x ∧ hi = .int .i64 y ∧ 0 ≤ x ∧ x < o ∧ o ≤ y ∧ y ≤ 9223372036854775807 ∧ Hid (Cr.Ground wr c w.heap.size (w.heap.size + 1) (w.heap.size + 1 + 1) r s (a - 63)) ∧ Hid (w.grownBy wr none)) (fun lo hi _ => (intOf hi - intOf lo).toNat)
  case atStart => exact ⟨0, 9223372036854775807, rfl, rfl, by omega, by omega, by omega, by omega, G2, Y2⟩
  case round =>
    obtain ⟨x, y, rfl, rfl, x0, xo, oy, y1, GR, YR⟩ := hrel
    clear G2 Y2
    by_cases hd : 1 < y - x
    · obtain ⟨z, hz⟩ : ∃ z, x + (y - x) / 2 = z := ⟨_, rfl⟩
      have z0 : x < z := by omega
      have z1 : z < y := by omega
      by_cases hm : o ≤ z
      · go_wp2_with fail
        refine (en_at c _ _ _ r s (a - 63) z true _ GR (Lib.hid ((HE.out z (by omega) (by omega)).trans (decide_eq_true hm))) (Lib.hid (in_mk (by omega) (by omega)))).mono ?_; rintro e w3 ⟨rfl, G3, g3⟩
        have Y3 := Lib.hid (gb_trans YR.out g3)
        clear g3 YR GR
        go_wp2_with fail
        go_roundw
        case rel => exact ⟨x, z, rfl, rfl, x0, xo, hm, by omega, G3, Y3⟩
        case measure => simp [intOf]; omega
      · go_wp2_with fail
        refine (en_at c _ _ _ r s (a - 63) z false _ GR (Lib.hid ((HE.out z (by omega) (by omega)).trans (decide_eq_false (by omega)))) (Lib.hid (in_mk (by omega) (by omega)))).mono ?_; rintro e w3 ⟨rfl, G3, g3⟩
        have Y3 := Lib.hid (gb_trans YR.out g3)
        clear g3 YR GR
        go_wp2_with fail
        go_roundw
        case rel => exact ⟨z, y, rfl, rfl, by omega, by omega, oy, y1, G3, Y3⟩
        case measure => simp [intOf]; omega
    · obtain rfl : y = o := by omega
      go_wp2_with fail
      go_ret
      exact ⟨rfl, YR.out⟩

set_option maxHeartbeats 1000000 in
theorem owed_paid (c m k : Nat) (g r bank a s : Int) (f : Int → Int × Int) (w : World) (HA : Hid (Cr.At w c m k r bank f)) (hg : Hid (In g)) (hf : Hid (f g = (a, s))) (hr : 0 < r) (hr2 : r ≤ 9223372036854775807) (ha : 64 < a) (ha2 : a ≤ 1000000000) (hs : Hid (In s))
    (HE : Hid (Cr.en r s (a - 63) 0 = true)) :
    Calls Try.prog 38 #[.pointer (some ⟨c, 0, none⟩), .int .i64 g] w fun e w' => e = .returned (.int .i64 0) ∧ w.grownBy w' none := by
  have hc0 := HA.out.c0
  have hc1 := HA.out.c1
  have hcl := HA.out.lt
  have hl := (HA.out.s.kept (gb_alloc (gb_refl w none) (.cells #[.pointer (some ⟨c, 0, none⟩)] 50)) (by simp)).look hg.out hf.out
  unfold Cr.pv at hl
  go_enter Try.func38, Try.ntmps38
  go_wp2_with fail
  refine (sub_at _ _ (a - 64) _ (in_mk (by omega) (by omega)) (in_mk (by omega) (by omega)) (Fx.sat_eq (by omega) (by omega))).mono ?_; rintro e w' ⟨rfl, rfl⟩
  go_wp2_with fail
  refine (add_at _ _ (a - 63) _ (in_mk (by omega) (by omega)) (in_mk (by omega) (by omega)) ((Fx.sat_eq (by omega) (by omega)).trans (by omega))).mono ?_; rintro e w' ⟨rfl, rfl⟩
  go_wp2_with fail
  have G0 : Hid (Cr.Ground (((w.alloc (.cells #[.pointer (some ⟨c, 0, none⟩)] 50)).alloc (.cells #[.int .i64 a, .int .i64 s] 71)).alloc (.cells #[.int .i64 (a - 63)] 2)) c w.heap.size (w.heap.size + 1) (w.heap.size + 1 + 1) r s (a - 63)) :=
    Lib.hid ⟨cell_none (gb_alloc (gb_alloc (gb_refl _ _) _) _) (World.cell?_alloc_new ..), cell_none (gb_alloc (gb_refl _ _) _) (World.cell?_alloc_at _ _ _ _ (by simp)), World.cell?_alloc_at _ _ _ _ (by simp), cell_none (gb_alloc (gb_alloc (gb_alloc (gb_refl _ _) _) _) _) hc0, in_mk (by omega) (by omega), hs.out⟩
  have Y0 : Hid (w.grownBy (((w.alloc (.cells #[.pointer (some ⟨c, 0, none⟩)] 50)).alloc (.cells #[.int .i64 a, .int .i64 s] 71)).alloc (.cells #[.int .i64 (a - 63)] 2)) none) := Lib.hid (gb_alloc (gb_alloc (gb_alloc (gb_refl _ _) _) _) _)
  clear hc0 hc1 hl
  refine (en_at c _ _ _ r s (a - 63) 0 true _ G0 HE (Lib.hid (in_mk (by omega) (by omega)))).mono ?_; rintro e w1 ⟨rfl, G1, g1⟩
  go_wp2_with fail
  go_ret
  exact ⟨rfl, gb_trans Y0.out g1⟩

set_option maxHeartbeats 1000000 in
theorem bank_any (c m k : Nat) (r bank n : Int) (f : Int → Int × Int) (w : World) (HA : Hid (Cr.At w c m k r bank f)) (hb : 0 ≤ bank) (hb2 : bank ≤ 1000000) (hn : 0 < n) (hn2 : n ≤ 1000000) :
    Calls Try.prog 40 #[.pointer (some ⟨c, 0, none⟩), .int .i64 n] w fun e w' => e = .returned (.tuple #[]) ∧ Hid (Cr.At w' c m k r (bank + n) f) ∧ w.grownBy w' (some c) := by
  have h2 := HA.out.c2
  have f2 := HA.out.f2
  go_enter Try.func40, Try.ntmps40
  go_wp2_with fail
  refine (add_at _ _ (bank + n) _ (in_mk (by omega) (by omega)) (in_mk (by omega) (by omega)) (Fx.sat_eq (by omega) (by omega))).mono ?_; rintro e w' ⟨rfl, rfl⟩
  go_wp2_with fail
  go_end0
  exact ⟨rfl, Lib.hid (Cr.At.setBank HA.out), gb_setAt (gb_refl _ _) rfl _⟩

set_option maxHeartbeats 1000000 in
theorem banked_any (c m k : Nat) (r bank : Int) (f : Int → Int × Int) (w : World) (HA : Hid (Cr.At w c m k r bank f)) :
    Calls Try.prog 41 #[.pointer (some ⟨c, 0, none⟩)] w fun e w' => e = .returned (.int .i64 bank) ∧ w = w' := by
  have h2 := HA.out.c2
  go_enter Try.func41, Try.ntmps41
  go_wp2_with fail
  go_ret
  exact ⟨rfl, rfl⟩
end Go.Proofs.Ytflfhjemblhafaa
