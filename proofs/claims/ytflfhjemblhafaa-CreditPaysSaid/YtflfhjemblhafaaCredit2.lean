/-
  THE WALKS of New, worth, Scan, Sums and Alloc of package credit.
-/
import Derived.Test.YtflfhjemblhafaaCredit
namespace Go.Proofs.Ytflfhjemblhafaa
open Go.RowKit

namespace Cr
structure At (w : World) (c m n : Nat) (r bank : Int) (f : Int → Int × Int) : Prop where
  c0 : w.cell? ⟨c, 0, none⟩ = some (.int .i64 r)
  c1 : w.cell? ⟨c, 1, none⟩ = some (.map (some m))
  c2 : w.cell? ⟨c, 2, none⟩ = some (.int .i64 bank)
  f2 : w.frozen? ⟨c, 2, none⟩ = false
  s : Sums w m n f
  ne : c ≠ m
theorem At.lt {w : World} {c m n : Nat} {r bank : Int} {f : Int → Int × Int} (h : At w c m n r bank f) : c < w.heap.size := World.block_lt_of_cell? w _ h.c0
theorem At.kept {w w' : World} {c m n k : Nat} {r bank : Int} {f : Int → Int × Int} (h : At w c m n r bank f) (hg : w.grownBy w' (some k)) (h1 : c ≠ k) (h2 : m ≠ k) : At w' c m n r bank f :=
  ⟨gb_cell hg h1 h.c0, gb_cell hg h1 h.c1, gb_cell hg h1 h.c2, (gb_frozen hg h1 h.lt).trans h.f2, h.s.kept hg (fun e => h2 (by cases e; rfl)), h.ne⟩
/-- .. behind a store into its own map. -/
theorem At.put {w w' : World} {c m n n' : Nat} {r bank : Int} {f f' : Int → Int × Int} (h : At w c m n r bank f) (hg : w.grownBy w' (some m)) (hs : Sums w' m n' f') : At w' c m n' r bank f' :=
  ⟨gb_cell hg h.ne h.c0, gb_cell hg h.ne h.c1, gb_cell hg h.ne h.c2, (gb_frozen hg h.ne h.lt).trans h.f2, hs, h.ne⟩

/-- What New leaves. -/
def Newed (w : World) (r : Int) (e : Ending) (w' : World) : Prop :=
  ∃ c m : Nat, e = .returned (.pointer (some ⟨c, 0, none⟩)) ∧ At w' c m 0 r 0 (fun _ => (0, 0)) ∧ w.heap.size ≤ c ∧ w.heap.size ≤ m ∧ w.grownBy w' none
def worth (r x : Int) : Int := Fx.int (Fx.div (Fx.whole x) r)
end Cr

theorem quiet_is {f : FuncId} {args : Array Value} {w : World} {n : Nat} {v : Value}
    (h : Calls Try.prog f args (w.drewN n) fun e w' => e = .returned v ∧ w.drewN n = w') : Calls Try.prog f args (w.drewN n) fun e w'' => e = .returned v ∧ ∃ m, w'' = w.drewN m :=
  h.mono fun _ _ ⟨he, hm⟩ => ⟨he, n, hm.symm⟩

set_option maxHeartbeats 1000000 in
theorem worth_any (c : Nat) (r x : Int) (w : World) (hr : In r) (hx : In x) (c0 : w.cell? ⟨c, 0, none⟩ = some (.int .i64 r)) :
    Calls Try.prog 57 #[.pointer (some ⟨c, 0, none⟩), .int .i64 x] w fun e w' => e = .returned (.int .i64 (Cr.worth r x)) ∧ ∃ n, w' = w.drewN n := by
  have HR := Lib.hid hr
  have HX := Lib.hid hx
  clear hr hx
  go_enter Try.func57, Try.ntmps57
  go_wp2_with fail
  go_quiet ((first
    | (go_at_call 26; exact quiet_is (whole_at _ (Fx.whole x) _ HX.out rfl))
    | (go_at_call 25; exact Calls.quiet_of (div_at _ _ (Fx.div (Fx.whole x) r) _ (in_sat _) HR.out rfl))
    | (go_at_call 31; exact quiet_is (int_at _ (Cr.worth r x) _ rfl))))
  go_wp2_with fail
  go_ret
  exact ⟨rfl, _, rfl⟩

set_option maxHeartbeats 1000000 in
theorem new_any (r : Int) (w : World) : Calls Try.prog 33 #[.int .i64 r] w fun e w' => Cr.Newed w r e w' := by
  have hmm := @run_makeMap Try.prog
  go_enter Try.func33, Try.ntmps33
  go_wp2_with fail
  go_ret
  exact ⟨w.heap.size + 1, w.heap.size, rfl, ⟨by simp [go_sem], by simp [go_sem], by simp [go_sem], by simp [go_sem], (Cr.sums_made w).kept (World.grownBy_alloc _ _ none) (by simp), by omega⟩, by omega, Nat.le_refl _, gb_alloc (gb_alloc (gb_refl _ _) _) _⟩

set_option maxHeartbeats 1000000 in
theorem scan_no (c : Nat) (g n : Int) (w : World) (hn : n ≤ 0) : Calls Try.prog 34 #[.pointer (some ⟨c, 0, none⟩), .int .i64 g, .int .i64 n] w fun e w' => e = .returned (.tuple #[]) ∧ w = w' := by
  go_enter Try.func34, Try.ntmps34
  go_wp2_with fail
  go_end0
  exact ⟨rfl, rfl⟩

/-- What a store into the map leaves. -/
def Cr.Put (w : World) (c m n : Nat) (r bank : Int) (f : Int → Int × Int) (v : Value) (e : Ending) (w' : World) : Prop :=
  e = .returned v ∧ Cr.At w' c m (n + 1) r bank f ∧ w.grownBy w' (some m)

set_option maxHeartbeats 2000000 in
theorem scan_yes (c m k : Nat) (g n r bank a s : Int) (f : Int → Int × Int) (w : World) (HA : Hid (Cr.At w c m k r bank f)) (hk : k < 1000) (hg : Hid (In g)) (hf : Hid (f g = (a, s))) (hs : Hid (In s)) (hn : 0 < n) (hn2 : n ≤ 9223372036854775807) :
    Calls Try.prog 34 #[.pointer (some ⟨c, 0, none⟩), .int .i64 g, .int .i64 n] w (Cr.Put w c m k r bank (Cr.upd f g a (Fx.add s n)) (.tuple #[])) := by
  have hc1 := HA.out.c1
  have hcl := HA.out.lt
  have hl := HA.out.s.look hg.out hf.out
  unfold Cr.pv at hl
  go_enter Try.func34, Try.ntmps34
  go_wp2_with fail
  refine (add_at _ _ _ _ hs.out (in_mk (by omega) (by omega)) rfl).mono ?_; rintro e w' ⟨rfl, rfl⟩
  go_wp2_with fail
  have gW := gb_drew (gb_alloc (gb_refl w (some m)) (.cells #[.int .i64 a, .int .i64 (Fx.add s n)] 71))
  have hW := HA.out.s.kept (gb_drew (gb_alloc (gb_refl w none) (.cells #[.int .i64 a, .int .i64 (Fx.add s n)] 71))) (by simp)
  obtain ⟨w2, hup, hs2, g2⟩ := hW.update (g := g) (a := a) (s := Fx.add s n) (by unfold maxLen; omega) hg.out
  unfold Cr.pv at hup
  have HS2 := Lib.hid hs2
  have G2 := Lib.hid (gb_trans gW g2)
  clear hs2 g2 gW hW
  go_region
  go_end0
  exact ⟨rfl, HA.out.put G2.out HS2.out, G2.out⟩

theorem field0 (a s : Int) (w : World) : (Instr.field 71 (.agg #[.int .i64 a, .int .i64 s]) 0).run Try.prog w = .ok (.int .i64 a) w := by kernel_rfl
theorem field1 (a s : Int) (w : World) : (Instr.field 71 (.agg #[.int .i64 a, .int .i64 s]) 1).run Try.prog w = .ok (.int .i64 s) w := by kernel_rfl

set_option maxHeartbeats 1000000 in
theorem sums_any (c m k : Nat) (g r bank a s : Int) (f : Int → Int × Int) (w : World) (HA : Hid (Cr.At w c m k r bank f)) (hg : Hid (In g)) (hf : Hid (f g = (a, s))) :
    Calls Try.prog 35 #[.pointer (some ⟨c, 0, none⟩), .int .i64 g] w fun e w' => e = .returned (.tuple #[.int .i64 a, .int .i64 s]) ∧ ∃ n, w' = w.drewN n := by
  have hc1 := HA.out.c1
  have hl := (HA.out.s.kept (gb_drew (gb_refl w none)) (by simp)).look hg.out hf.out
  unfold Cr.pv at hl
  have q0 := field0 a s w.drew
  have q1 := field1 a s w.drew
  go_enter Try.func35, Try.ntmps35
  go_wp2_with fail
  go_region
  all_goals
    go_wp2_with fail
    go_ret2
    exact ⟨rfl, 1, rfl⟩

theorem in_worth (r x : Int) : In (Cr.worth r x) := by
  have := in_sat (if r = 0 then 0 else Int.fdiv (Fx.whole x * 1048576) r)
  have h : In (Fx.div (Fx.whole x) r) := by
    unfold Fx.div
    split
    · split
      · exact ⟨by omega, by omega⟩
      · split <;> exact ⟨by omega, by omega⟩
    · exact in_sat _
  unfold Cr.worth Fx.int
  obtain ⟨h1, h2⟩ := h
  exact ⟨by omega, by omega⟩

set_option maxHeartbeats 1000000 in
theorem alloc_neg (c : Nat) (g n : Int) (w : World) (hn : n < 0) : Calls Try.prog 36 #[.pointer (some ⟨c, 0, none⟩), .int .i64 g, .int .i64 n] w fun e w' => e = .returned (.bool false) ∧ w = w' := by
  go_enter Try.func36, Try.ntmps36
  go_wp2_with fail
  go_ret
  exact ⟨rfl, rfl⟩

set_option maxHeartbeats 2000000 in
theorem alloc_no (c m k : Nat) (g n r bank a s x y : Int) (f : Int → Int × Int) (w : World) (HA : Hid (Cr.At w c m k r bank f)) (hg : Hid (In g)) (hf : Hid (f g = (a, s))) (ha : Hid (In a)) (hs : Hid (In s)) (hr : 0 < r) (hrr : r ≤ 9223372036854775807) (hn : 0 ≤ n) (hn2 : n ≤ 9223372036854775807)
    (hx : Hid (Fx.add a n = x)) (hy : Hid (Fx.add 64 (Cr.worth r s) = y)) (h : y < x) :
    Calls Try.prog 36 #[.pointer (some ⟨c, 0, none⟩), .int .i64 g, .int .i64 n] w fun e w' => e = .returned (.bool false) ∧ w.grownBy w' none := by
  have hc0 := HA.out.c0
  have hc1 := HA.out.c1
  have hcl := HA.out.lt
  have hl := HA.out.s.look hg.out hf.out
  unfold Cr.pv at hl
  go_enter Try.func36, Try.ntmps36
  go_wp2_with fail
  refine (add_at _ _ _ _ ha.out (in_mk (by omega) (by omega)) hx.out).mono ?_; rintro e w' ⟨rfl, rfl⟩
  go_wp2_with fail
  refine (worth_any c r s _ (in_mk (by omega) (by omega)) hs.out (by simp [go_sem, *])).mono ?_; rintro e w' ⟨rfl, k1, rfl⟩
  go_wp2_with fail
  refine (add_at _ _ _ _ (in_mk (by omega) (by omega)) (in_worth _ _) hy.out).mono ?_; rintro e w' ⟨rfl, rfl⟩
  go_wp2_with fail
  go_ret
  exact ⟨rfl, gb_drewN (gb_alloc (gb_refl _ _) _) _⟩

set_option maxHeartbeats 2000000 in
theorem alloc_yes (c m k : Nat) (g n r bank a s x y : Int) (f : Int → Int × Int) (w : World) (HA : Hid (Cr.At w c m k r bank f)) (hk : k < 1000) (hg : Hid (In g)) (hf : Hid (f g = (a, s))) (ha : Hid (In a)) (hs : Hid (In s)) (hrr : -9223372036854775808 ≤ r ∧ r ≤ 9223372036854775807) (hn : 0 ≤ n) (hn2 : n ≤ 9223372036854775807)
    (hx : Hid (Fx.add a n = x)) (hy : Hid (Fx.add 64 (Cr.worth r s) = y)) (h : r ≤ 0 ∨ x ≤ y) :
    Calls Try.prog 36 #[.pointer (some ⟨c, 0, none⟩), .int .i64 g, .int .i64 n] w (Cr.Put w c m k r bank (Cr.upd f g x s) (.bool true)) := by
  have hc0 := HA.out.c0
  have hc1 := HA.out.c1
  have hcl := HA.out.lt
  have hl := HA.out.s.look hg.out hf.out
  unfold Cr.pv at hl
  have hup : ∀ W, w.grownBy W none → ∃ w2, (Instr.mapUpdate 67 (.map (some m)) (.int .i64 g) (.agg #[.int .i64 x, .int .i64 s])).run Try.prog W = .ok () w2 ∧ Hid (Cr.Sums w2 m (k + 1) (Cr.upd f g x s)) ∧ Hid (W.grownBy w2 (some m)) := fun W hW => by
    obtain ⟨w2, h1, h2, h3⟩ := (HA.out.s.kept hW (by simp)).update (g := g) (a := x) (s := s) (by unfold maxLen; omega) hg.out
    exact ⟨w2, h1, Lib.hid h2, Lib.hid h3⟩
  have HU := Lib.hid hup
  clear hup
  obtain ⟨hr1, hr2⟩ := hrr
  by_cases hr : r ≤ 0
  · clear h
    go_enter Try.func36, Try.ntmps36
    go_wp2_with fail
    refine (add_at _ _ _ _ ha.out (in_mk (by omega) (by omega)) hx.out).mono ?_; rintro e w' ⟨rfl, rfl⟩
    go_wp2_with fail
    obtain ⟨w2, hup, hs2, g2⟩ := HU.out _ (gb_drew (gb_alloc (gb_refl w none) (.cells #[.int .i64 x, .int .i64 s] 71)))
    go_region
    go_wp2_with fail
    go_ret
    exact ⟨rfl, HA.out.put (gb_trans (gb_drew (gb_alloc (gb_refl w (some m)) (.cells #[.int .i64 x, .int .i64 s] 71))) g2.out) hs2.out, gb_trans (gb_drew (gb_alloc (gb_refl w (some m)) (.cells #[.int .i64 x, .int .i64 s] 71))) g2.out⟩
  · have h' : x ≤ y := by omega
    clear h
    go_enter Try.func36, Try.ntmps36
    go_wp2_with fail
    refine (add_at _ _ _ _ ha.out (in_mk (by omega) (by omega)) hx.out).mono ?_; rintro e w' ⟨rfl, rfl⟩
    go_wp2_with fail
    refine (worth_any c r s _ (in_mk (by omega) (by omega)) hs.out (by simp [go_sem, *])).mono ?_; rintro e w' ⟨rfl, k1, rfl⟩
    go_wp2_with fail
    refine (add_at _ _ _ _ (in_mk (by omega) (by omega)) (in_worth _ _) hy.out).mono ?_; rintro e w' ⟨rfl, rfl⟩
    go_wp2_with fail
    obtain ⟨w2, hup, hs2, g2⟩ := HU.out _ (gb_drew (gb_setCell (gb_drewN (gb_alloc (gb_refl w none) (.cells #[.int .i64 a, .int .i64 s] 71)) k1) (p := ⟨w.heap.size, 0, none⟩) (Nat.le_refl _) (.int .i64 x)))
    go_region
    go_wp2_with fail
    go_ret
    exact ⟨rfl, HA.out.put (gb_trans (gb_drew (gb_setCell (gb_drewN (gb_alloc (gb_refl w (some m)) (.cells #[.int .i64 a, .int .i64 s] 71)) k1) (p := ⟨w.heap.size, 0, none⟩) (Nat.le_refl _) (.int .i64 x))) g2.out) hs2.out, gb_trans (gb_drew (gb_setCell (gb_drewN (gb_alloc (gb_refl w (some m)) (.cells #[.int .i64 a, .int .i64 s] 71)) k1) (p := ⟨w.heap.size, 0, none⟩) (Nat.le_refl _) (.int .i64 x))) g2.out⟩

set_option maxHeartbeats 1000000 in
theorem owed_off (c m k : Nat) (g r bank : Int) (f : Int → Int × Int) (w : World) (HA : Hid (Cr.At w c m k r bank f)) (hr : r ≤ 0) :
    Calls Try.prog 38 #[.pointer (some ⟨c, 0, none⟩), .int .i64 g] w fun e w' => e = .returned (.int .i64 0) ∧ w.grownBy w' none := by
  have hc0 := HA.out.c0
  have hcl := HA.out.lt
  go_enter Try.func38, Try.ntmps38
  go_wp2_with fail
  go_ret
  exact ⟨rfl, gb_alloc (gb_refl _ _) _⟩

set_option maxHeartbeats 1000000 in
theorem owed_none (c m k : Nat) (g r bank a s : Int) (f : Int → Int × Int) (w : World) (HA : Hid (Cr.At w c m k r bank f)) (hg : Hid (In g)) (hf : Hid (f g = (a, s))) (hr : 0 < r) (ha : -9223372036854775744 ≤ a) (h : a ≤ 64) :
    Calls Try.prog 38 #[.pointer (some ⟨c, 0, none⟩), .int .i64 g] w fun e w' => e = .returned (.int .i64 0) ∧ w.grownBy w' none := by
  have hc0 := HA.out.c0
  have hc1 := HA.out.c1
  have hcl := HA.out.lt
  have hl := (HA.out.s.kept (gb_alloc (gb_refl w none) (.cells #[.pointer (some ⟨c, 0, none⟩)] 50)) (by simp)).look hg.out hf.out
  unfold Cr.pv at hl
  go_enter Try.func38, Try.ntmps38
  go_wp2_with fail
  refine (sub_at _ _ (a - 64) _ (in_mk (by omega) (by omega)) (in_mk (by omega) (by omega)) (Fx.sat_eq (by omega) (by omega))).mono ?_; rintro e w' ⟨rfl, rfl⟩
  go_wp2_with fail
  refine (add_at _ _ (a - 64 + 1) _ (in_mk (by omega) (by omega)) (in_mk (by omega) (by omega)) (Fx.sat_eq (by omega) (by omega))).mono ?_; rintro e w' ⟨rfl, rfl⟩
  go_wp2_with fail
  go_ret
  exact ⟨rfl, gb_alloc (gb_alloc (gb_alloc (gb_refl _ _) _) _) _⟩
end Go.Proofs.Ytflfhjemblhafaa
