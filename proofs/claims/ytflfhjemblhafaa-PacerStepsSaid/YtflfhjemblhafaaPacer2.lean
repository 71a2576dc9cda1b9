/-
  told of the laws of layer 23.
-/
import Derived.Test.YtflfhjemblhafaaPacer
import Derived.Deep.QuietTactic
import Derived.BigQuiet
import Derived.Deep.RegionHeld3
namespace Go.Proofs.Ytflfhjemblhafaa
open Go.RowKit

theorem bcell {W w1 : World} (hb : Below W.heap.size W w1) : (∀ b o, b < W.heap.size → w1.cell? ⟨b, o, none⟩ = W.cell? ⟨b, o, none⟩) ∧ (∀ b o, b < W.heap.size → w1.frozen? ⟨b, o, none⟩ = W.frozen? ⟨b, o, none⟩) :=
  ⟨fun b o h => hb.cell (p := ⟨b, o, none⟩) h, fun b o h => hb.frozen (p := ⟨b, o, none⟩) h⟩

theorem cell_in {w w' : World} (b : Below w.heap.size w w') {a : Addr} {v : Value} (h : w.cell? a = some v) : w'.cell? a = some v :=
  (b.cell (World.block_lt_of_cell? w a h)).trans h

set_option maxHeartbeats 2000000 in
theorem told23_any (w : World) : Calls Try.prog 29 #[] w fun e w' => e = .returned (.bool true) ∧ Below w.heap.size w w' := by
  go_enter Try.func29, Try.ntmps29
  go_wp2_with fail
  refine (goal_any 0 1024 100 0 100 192 256 1048576 _ (Lib.hid (by decide)) (Lib.hid (by decide)) (Lib.hid (by decide)) (Lib.hid (by decide)) (Lib.hid (by decide +kernel)) (by omega) (by omega)).mono ?_; rintro e w1 ⟨rfl, b1⟩
  go_wp2_with fail
  refine (goal_off 100 1024 100 100 100 _ (by decide) (by decide) (by decide) (by decide)).mono ?_; rintro e w2 ⟨rfl, b2⟩
  obtain ⟨hc, hf⟩ := bcell b2
  have hz : w1.heap.size < w2.heap.size := by have := b2.size; simp at this; omega
  go_wp2_with fail
  refine (begin_any _ _ _ _ true _ (Lib.hid (by decide))).mono ?_; rintro e w' ⟨rfl, rfl⟩
  go_wp2_with fail
  refine (begin_any _ _ _ _ false _ (Lib.hid (by decide))).mono ?_; rintro e w' ⟨rfl, rfl⟩
  go_wp2_with fail
  refine (begin_any _ _ _ _ false _ (Lib.hid (by decide))).mono ?_; rintro e w' ⟨rfl, rfl⟩
  go_wp2_with fail
  go_ret
  exact ⟨rfl, below_alloc (below_alloc (below_alloc (below_alloc (below_trans (below_alloc b1 _) b2) _) _) _) _⟩
end Go.Proofs.Ytflfhjemblhafaa
