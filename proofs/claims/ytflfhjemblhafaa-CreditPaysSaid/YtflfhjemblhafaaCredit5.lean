/-
  THE WALK of Steal, where something is owed and the bank has it.
-/
import Derived.Test.YtflfhjemblhafaaCredit4
namespace Go.Proofs.Ytflfhjemblhafaa
open Go.RowKit

theorem steal_keep' {c m k : Nat} {r bank : Int} {f : Int → Int × Int} {w0 w w' : World} (g : w.grownBy w' none) (h : Cr.At w c m k r bank f ∧ w0.grownBy w none ∧ w.cell? ⟨c, 2, none⟩ = some (.int .i64 bank)) :
    Cr.At w' c m k r bank f ∧ w0.grownBy w' none ∧ w'.cell? ⟨c, 2, none⟩ = some (.int .i64 bank) :=
  ⟨h.1.grown g, gb_trans h.2.1 g, (h.1.grown g).c2⟩

/-- What Owed takes for granted, where something is owed. -/
structure Cr.Owes (g r a s o : Int) (f : Int → Int × Int) : Prop where
  ig : In g
  hf : f g = (a, s)
  r0 : 0 < r
  r1 : r ≤ 9223372036854775807
  a0 : 64 < a
  a1 : a ≤ 1000000000
  is : In s
  o1 : 1 ≤ o
  o2 : o ≤ 1000
  he : ∀ v, 0 ≤ v → v ≤ 9223372036854775807 → Cr.en r s (a - 63) v = decide (o ≤ v)

theorem owed_is (c m k : Nat) (g r bank a s o : Int) (f : Int → Int × Int) (w : World) {p q : Prop} (HA : Cr.At w c m k r bank f ∧ p ∧ q) (HO : Hid (Cr.Owes g r a s o f)) :
    Calls Try.prog 38 #[.pointer (some ⟨c, 0, none⟩), .int .i64 g] w fun e w' => e = .returned (.int .i64 o) ∧ w.grownBy w' none :=
  owed_some c m k g r bank a s o f w (Lib.hid HA.1) (Lib.hid HO.out.ig) (Lib.hid HO.out.hf) HO.out.r0 HO.out.r1 HO.out.a0 HO.out.a1 (Lib.hid HO.out.is) HO.out.o1 HO.out.o2 (Lib.hid HO.out.he)

set_option maxHeartbeats 2000000 in
theorem steal_some (c m k B : Nat) (g r bank a s o : Int) (f : Int → Int × Int) (w : World) (HA : Hid (Cr.At w c m k r bank f)) (HO : Hid (Cr.Owes g r a s o f)) (hk : k < 1000) (o1 : 1 ≤ o) (o2 : o ≤ 1000) (ob : o ≤ bank) (b2 : bank ≤ 1000000) (hB : B ≤ c) (hB2 : B ≤ m) :
    Calls Try.prog 39 #[.pointer (some ⟨c, 0, none⟩), .int .i64 g] w fun e w' => e = .returned (.int .i64 o) ∧ Hid (Cr.At w' c m (k + 1) r (bank - o) (Cr.upd f g a (Fx.add s o))) ∧ Hid (Below B w w') := by
  have hcl := HA.out.lt
  have hmin : min o bank = o := by omega
  go_enter Try.func39, Try.ntmps39
  go_wp2_with fail
  go_region_held3 (fun x => Cr.At x c m k r bank f ∧ w.grownBy x none ∧ x.cell? ⟨c, 2, none⟩ = some (.int .i64 bank)) (first | assumption | exact ⟨HA.out.grown (gb_drew (gb_refl w none)), gb_drew (gb_refl w none), HA.out.c2⟩ | exact steal_keep' (by assumption) (by assumption))
    ((go_at_call 38; (with_reducible refine (owed_is c m k _ r bank a s o f _ (by assumption) HO).mono ?_); rintro e w1 ⟨rfl, g1⟩))
  all_goals
    rename_i hh
    have HH := Lib.hid hh.1
    have HG := Lib.hid hh.2.1
    have hc2 := hh.2.2
    have hf2 := hh.1.f2
    clear hh
    go_wp2_with fail
    have HS := Lib.hid (Cr.At.setBank (x := bank - o) HH.out)
    have B1 := Lib.hid (((gb_below (B := B) (gb_any HG.out (some m)) hB2 (by omega)).setCell (p := ⟨c, 2, none⟩) hB (.int .i64 (bank - o))))
    refine (scan_yes c m k g o r (bank - o) a s f _ HS hk (Lib.hid HO.out.ig) (Lib.hid HO.out.hf) (Lib.hid HO.out.is) (by omega) (by omega)).mono ?_; rintro e w2 ⟨rfl, h2, g2⟩
    have B2 := Lib.hid (B1.out.trans (gb_below (B := B) g2 hB2 (Nat.le_trans (Nat.le_trans hB (Nat.le_of_lt hcl)) B1.out.size)))
    have H2 := Lib.hid h2
    clear h2 g2 HS B1 HH HG
    go_wp2_with fail
    go_ret
    exact ⟨rfl, H2, B2⟩
end Go.Proofs.Ytflfhjemblhafaa
