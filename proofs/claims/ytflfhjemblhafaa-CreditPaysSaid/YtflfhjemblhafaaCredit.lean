/-
  THE WALKS of package credit (layer 22): goroutines' sums in a map of structs.
-/
import Derived.Test.YtflfhjemblhafaaShare
import Derived.Handy
import Derived.Maps.OwnOps
import Derived.Maps.OwnSet
import Derived.Maps.Views
import Derived.StillTailTactics
import Derived.Deep.QuietTactic
import Derived.BigQuiet
namespace Go.Proofs.Ytflfhjemblhafaa
open Go.RowKit Go.ChangeMaps
open Go.Maps (Keyed)

theorem add_at (a b r : Int) (w : World) (ha : In a) (hb : In b) (h : Fx.add a b = r) : Calls Try.prog 53 #[.int .i64 a, .int .i64 b] w fun e w' => e = .returned (.int .i64 r) ∧ w = w' := by
  have := add_any a b w ha.1 ha.2 hb.1 hb.2
  rw [h] at this; exact this
theorem sub_at (a b r : Int) (w : World) (ha : In a) (hb : In b) (h : Fx.sub a b = r) : Calls Try.prog 54 #[.int .i64 a, .int .i64 b] w fun e w' => e = .returned (.int .i64 r) ∧ w = w' := by
  have := sub_any a b w ha.1 ha.2 hb.1 hb.2
  rw [h] at this; exact this
theorem in_mk' {a : Int} (h : In a) : (Lit.int .i64 a).wf = true := by
  simpa [Lit.wf, IntKind.min, IntKind.max, IntKind.signed, IntKind.bits, In] using h

/-! ### worlds -/
theorem gb_refl (w : World) (m : Option Nat) : w.grownBy w m := ⟨rfl, rfl, rfl, Nat.le_refl _, fun _ _ _ => rfl⟩
theorem gb_trans {a b c : World} {m : Option Nat} (h : a.grownBy b m) (k : b.grownBy c m) : a.grownBy c m :=
  ⟨k.os.trans h.os, k.tape.trans h.tape, k.output.trans h.output, Nat.le_trans h.size k.size, fun i hi hm => (k.block i (Nat.lt_of_lt_of_le hi h.size) hm).trans (h.block i hi hm)⟩
theorem gb_drewN {a b : World} {m : Option Nat} (h : a.grownBy b m) (n : Nat) : a.grownBy (b.drewN n) m := ⟨h.os, h.tape, h.output, h.size, h.block⟩
theorem gb_drew {a b : World} {m : Option Nat} (h : a.grownBy b m) : a.grownBy b.drew m := ⟨h.os, h.tape, h.output, h.size, h.block⟩
theorem gb_alloc {a b : World} {m : Option Nat} (h : a.grownBy b m) (o : Obj) : a.grownBy (b.alloc o) m :=
  gb_trans h (World.grownBy_alloc b o m)
theorem gb_setCell {a b : World} {m : Option Nat} (h : a.grownBy b m) {p : Addr} (hp : a.heap.size ≤ p.block) (v : Value) : a.grownBy (b.setCell p v) m :=
  ⟨h.os, h.tape, h.output, by simpa using h.size, fun i hi hm => (Below.heap_setCell _ _ _ _ (by omega)).trans (h.block i hi hm)⟩
theorem gb_setAt {a b : World} {k : Nat} (h : a.grownBy b (some k)) {p : Addr} (hp : p.block = k) (v : Value) : a.grownBy (b.setCell p v) (some k) :=
  ⟨h.os, h.tape, h.output, by simpa using h.size, fun i hi hm => (Below.heap_setCell _ _ _ _ (fun e => hm (by rw [e, hp]))).trans (h.block i hi hm)⟩
theorem gb_below {a b : World} {m B : Nat} (h : a.grownBy b (some m)) (hm : B ≤ m) (hB : B ≤ a.heap.size) : Below B a b :=
  ⟨h.os, h.tape, h.output, h.size, fun i hi => h.block i (Nat.lt_of_lt_of_le hi hB) (fun e => by cases e; omega)⟩
theorem gb_cell {a b : World} {m : Nat} (h : a.grownBy b (some m)) {p : Addr} (hp : p.block ≠ m) {v : Value} (hc : a.cell? p = some v) : b.cell? p = some v :=
  (World.cell?_of_block (h.block p.block (World.block_lt_of_cell? a p hc) (fun e => hp (by cases e; rfl)))).trans hc
theorem gb_frozen {a b : World} {m : Nat} (h : a.grownBy b (some m)) {p : Addr} (hp : p.block ≠ m) (hs : p.block < a.heap.size) : b.frozen? p = a.frozen? p :=
  World.frozen?_of_block (h.block p.block hs (fun e => hp (by cases e; rfl)))

namespace Cr
/-- How a pair of sums reads. -/
def pd (a s : Int) : DataW Unit := .agg [.lit (.int .i64 a), .lit (.int .i64 s)]
def pv (a s : Int) : Value := .agg #[.int .i64 a, .int .i64 s]
open Classical in
noncomputable def pairElem (v : Value) : Option (DataW Unit × List MemPlace) := if h : ∃ x : Int × Int, v = pv x.1 x.2 then some (pd h.choose.1 h.choose.2, []) else none
theorem pv_inj {a s a' s' : Int} (h : pv a s = pv a' s') : a = a' ∧ s = s' := by simpa [pv] using h
theorem pd_inj {a s a' s' : Int} (h : pd a s = pd a' s') : a = a' ∧ s = s' := by simpa [pd] using h
theorem pair_mk (a s : Int) : pairElem (pv a s) = some (pd a s, []) := by
  have h : ∃ x : Int × Int, pv a s = pv x.1 x.2 := ⟨(a, s), rfl⟩
  unfold pairElem
  rw [dif_pos h]
  obtain ⟨h1, h2⟩ := pv_inj h.choose_spec
  rw [← h1, ← h2]
theorem pair_inv {v : Value} {a s : Int} {ps : List MemPlace} (h : pairElem v = some (pd a s, ps)) : v = pv a s := by
  unfold pairElem at h
  split at h
  · rename_i hx
    simp only [Option.some.injEq, Prod.mk.injEq] at h
    obtain ⟨h1, h2⟩ := pd_inj h.1
    rw [hx.choose_spec, h1, h2]
  · cases h

/-- Block b is a map of at most n goroutines' sums f. -/
def Sums (w : World) (b n : Nat) (f : Int → Int × Int) : Prop :=
  ∃ D : DataW Unit, w.ownsMap Try.prog 3 pairElem b n D ∧ ∀ g, D.atKey (.int .i64 g) (pd 0 0) = pd (f g).1 (f g).2
def upd (f : Int → Int × Int) (g a s : Int) : Int → Int × Int := fun x => if x = g then (a, s) else f x
theorem upd_same {f : Int → Int × Int} {g a s : Int} : upd f g a s g = (a, s) := if_pos rfl
theorem upd_other {f : Int → Int × Int} {g a s x : Int} (h : x ≠ g) : upd f g a s x = f x := if_neg h

theorem keyed : Keyed Try.prog 3 := Maps.int_keyed Try.underlying3
theorem key_int {g : Int} (h : In g) : keyOf Try.prog 3 (.int .i64 g) = some (.int .i64 g) := Maps.keyOf_int_mk Try.underlying3 (in_mk' h)
theorem zeroE (w : World) : (zeroValue 71).run Try.prog w = .ok (pv 0 0) w := by kernel_rfl
theorem sums_made (w : World) : Sums (w.alloc (.map #[] 0)) w.heap.size 0 (fun _ => (0, 0)) :=
  ⟨_, World.ownsMap_made w _ _ _, fun _ => rfl⟩
theorem Sums.kept {w w' : World} {b n : Nat} {f : Int → Int × Int} (h : Sums w b n f) {m : Option Nat} (hg : w.grownBy w' m) (hm : some b ≠ m) : Sums w' b n f :=
  let ⟨D, h1, h2⟩ := h
  ⟨D, h1.kept hg hm, h2⟩
theorem Sums.mono {w : World} {b n n' : Nat} {f : Int → Int × Int} (h : Sums w b n f) (hn : n ≤ n') : Sums w b n' f :=
  let ⟨D, h1, h2⟩ := h
  ⟨D, h1.mono hn, h2⟩
theorem Sums.look {w : World} {b n : Nat} {f : Int → Int × Int} (h : Sums w b n f) {g a s : Int} (hg : In g) (hf : f g = (a, s)) : (Instr.lookup 67 (.map (some b)) (.int .i64 g) false).run Try.prog w = .ok (pv a s) w := by
  obtain ⟨D, h1, h2⟩ := h
  obtain ⟨v, ps, hrun, hv⟩ := h1.lookup keyed Try.underlying67 (zeroE w) (pair_mk 0 0) (key_int hg)
  rw [h2 g, hf] at hv
  rw [hrun, pair_inv hv]
theorem Sums.update {w : World} {b n : Nat} {f : Int → Int × Int} (h : Sums w b n f) (hn : n < maxLen) {g a s : Int} (hg : In g) :
    ∃ w', (Instr.mapUpdate 67 (.map (some b)) (.int .i64 g) (pv a s)).run Try.prog w = .ok () w' ∧ Sums w' b (n + 1) (upd f g a s) ∧ w.grownBy w' (some b) := by
  obtain ⟨D, h1, h2⟩ := h
  obtain ⟨w', hrun, r1, r2⟩ := h1.update keyed Try.underlying67 hn (key_int hg) (pair_mk a s)
  refine ⟨w', hrun, ⟨_, r1, fun x => ?_⟩, r2⟩
  by_cases hx : x = g
  · rw [hx, Maps.atKey_put_same h1.isMap (by trivial), upd_same]
  · rw [Maps.atKey_put_other (fun e => hx (by cases e; rfl)), h2 x, upd_other hx]
end Cr
end Go.Proofs.Ytflfhjemblhafaa
