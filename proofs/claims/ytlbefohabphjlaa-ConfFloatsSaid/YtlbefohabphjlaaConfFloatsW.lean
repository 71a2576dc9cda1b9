/-
  THE WALK of treadmilllaw2.ConfFloats: what floats come to is what the document says.
-/
import Derived.Test.YtlbefohabphjlaaSame
import Derived.Deep.RegionHeld3
namespace Go.Proofs.Ytlbefohabphjlaa
open Go.RowKit

theorem grown_cell {w w' : World} (h : Grown w w') {b o : Nat} {v : Value} (hc : w.cell? ⟨b, o, none⟩ = some v) : w'.cell? ⟨b, o, none⟩ = some v := by
  have hb := World.block_lt_of_cell? w _ hc
  have hk := h.1.2.2 b hb
  unfold World.cell? at hc ⊢
  simp only at hc ⊢
  split at hc
  · rename_i c t fr he
    rw [he] at hk
    split at hk
    · rename_i c0 t0 fr0 c' t' fr' e1 e2
      cases e1
      rw [e2]
      have := hk.2.2.2 o (by simp)
      simp only [Option.isSome_none, Bool.false_eq_true, if_false] at hc ⊢
      rw [this]; exact hc
    · rename_i e1 _
      cases e1
    · rw [hk]; exact hc
  · cases hc

theorem cf_keep {p1 w1 p2 w2 : Int} {f1 g1 f2 g2 k2 k3 : Nat} {w0 w w' : World} (b : Grown w w') (h : Grown w0 w ∧ w.cell? ⟨k2, 0, none⟩ = some (.int .i64 p1) ∧ w.cell? ⟨k2, 1, none⟩ = some (.int .i64 w1) ∧ w.cell? ⟨k2, 2, none⟩ = some (.float .f64 f1) ∧ w.cell? ⟨k2, 3, none⟩ = some (.float .f64 g1) ∧ w.cell? ⟨k3, 0, none⟩ = some (.int .i64 p2) ∧ w.cell? ⟨k3, 1, none⟩ = some (.int .i64 w2) ∧ w.cell? ⟨k3, 2, none⟩ = some (.float .f64 f2) ∧ w.cell? ⟨k3, 3, none⟩ = some (.float .f64 g2)) : Grown w0 w' ∧ w'.cell? ⟨k2, 0, none⟩ = some (.int .i64 p1) ∧ w'.cell? ⟨k2, 1, none⟩ = some (.int .i64 w1) ∧ w'.cell? ⟨k2, 2, none⟩ = some (.float .f64 f1) ∧ w'.cell? ⟨k2, 3, none⟩ = some (.float .f64 g1) ∧ w'.cell? ⟨k3, 0, none⟩ = some (.int .i64 p2) ∧ w'.cell? ⟨k3, 1, none⟩ = some (.int .i64 w2) ∧ w'.cell? ⟨k3, 2, none⟩ = some (.float .f64 f2) ∧ w'.cell? ⟨k3, 3, none⟩ = some (.float .f64 g2) :=
  let ⟨h0, h1, h2, h3, h4, h5, h6, h7, h8⟩ := h
  ⟨grown_trans h0 b, grown_cell b h1, grown_cell b h2, grown_cell b h3, grown_cell b h4, grown_cell b h5, grown_cell b h6, grown_cell b h7, grown_cell b h8⟩

theorem grown_is {f : FuncId} {args : Array Value} {w : World} {v : Value} (h : Calls Try.prog f args w fun e w' => e = .returned v ∧ w = w') : Calls Try.prog f args w fun e w' => e = .returned v ∧ Grown w w' :=
  h.mono fun _ _ ⟨h1, h2⟩ => ⟨h1, by rw [← h2]; exact Grown.refl _⟩

set_option maxRecDepth 100000 in
set_option maxHeartbeats 4000000 in
theorem confFloats_core (p1 w1 p2 w2 : Int) (f1 g1 f2 g2 : Nat) (a1 a2 q1 q2 : Int) (b1 b2 M : Bool) (t1 t2 t3 t4 t5 t : Bool) (w : World) (H : Hid (SameAt f1 g1 f2 g2 a1 a2 q1 q2 b1 b2)) (HM : Hid (mayB p1 w1 = M))
    (e1 : (p1 == p2) = t1) (e2 : (w1 == w2) = t2) (e3 : (a1 == a2) = t3) (e4 : (b1 == b2) = t4) (e5 : (q1 == q2) = t5)
    (ht : (t1 = false ∧ t = false) ∨ (t1 = true ∧ t2 = false ∧ t = false) ∨ (t1 = true ∧ t2 = true ∧ t3 = false ∧ t = false) ∨ (t1 = true ∧ t2 = true ∧ t3 = true ∧ t4 = false ∧ t = false) ∨ (t1 = true ∧ t2 = true ∧ t3 = true ∧ t4 = true ∧ t5 = t)) :
    Calls Try.prog 15 #[.agg #[.int .i64 p1, .int .i64 w1, .float .f64 f1, .float .f64 g1], .agg #[.int .i64 p2, .int .i64 w2, .float .f64 f2, .float .f64 g2]] w fun e w' => e = .returned (.bool true) ∧ Grown w w' := by
  have HP1 := Lib.hid (part_at g1 q1 H.out.y1)
  have HQ1 : Hid (∀ w, Calls Try.prog 38 #[.float .f64 g1] w fun e w' => e = .returned (.int .i64 q1) ∧ w = w') := Lib.hid fun w => by have := rpart_any g1 w; rw [H.out.y1] at this; exact this
  have HQ2 : Hid (∀ w, Calls Try.prog 38 #[.float .f64 g2] w fun e w' => e = .returned (.int .i64 q2) ∧ w = w') := Lib.hid fun w => by have := rpart_any g2 w; rw [H.out.y2] at this; exact this
  have HC1 := Lib.hid (percent_at f1 a1 b1 H.out.x1)
  have HR1 : Hid (∀ w, Calls Try.prog 37 #[.float .f64 f1] w fun e w' => e = .returned (.tuple #[.int .i64 a1, .bool b1]) ∧ Grown w w') := Lib.hid fun w => by have := rpercent_any f1 w; rw [H.out.x1] at this; exact this.mono fun _ _ ⟨h1, k, h2⟩ => ⟨h1, by rw [h2]; exact grown_drewN (Grown.refl _) _⟩
  have HR2 : Hid (∀ w, Calls Try.prog 37 #[.float .f64 f2] w fun e w' => e = .returned (.tuple #[.int .i64 a2, .bool b2]) ∧ Grown w w') := Lib.hid fun w => by have := rpercent_any f2 w; rw [H.out.x2] at this; exact this.mono fun _ _ ⟨h1, k, h2⟩ => ⟨h1, by rw [h2]; exact grown_drewN (Grown.refl _) _⟩
  have HS1 := Lib.hid (fun w => same_core p1 w1 p2 w2 f1 g1 f2 g2 a1 a2 q1 q2 b1 b2 t1 t2 t3 t4 t5 t w H e1 e2 e3 e4 e5 ht)
  have HS2 := Lib.hid (fun w => same_core p1 w1 p1 w1 f1 g1 f1 g1 a1 a1 q1 q1 b1 b1 true true true true true true w (Lib.hid ⟨H.out.x1, H.out.x1, H.out.y1, H.out.y1⟩) (by simp) (by simp) (by simp) (by simp) (by simp) (.inr (.inr (.inr (.inr ⟨rfl, rfl, rfl, rfl, rfl⟩)))))
  have HM1 := Lib.hid (may_at p1 w1 (.float .f64 f1) (.float .f64 g1) M HM.out)
  have HM2 := Lib.hid (rmay_at p1 w1 (.float .f64 f1) (.float .f64 g1) M HM.out)
  clear H HM
  rcases ht with ⟨rfl, rfl⟩ | ⟨rfl, rfl, rfl⟩ | ⟨rfl, rfl, rfl, rfl⟩ | ⟨rfl, rfl, rfl, rfl, rfl⟩ | ⟨rfl, rfl, rfl, rfl, rfl⟩
  all_goals
    go_enter Try.func15, Try.ntmps15
    go_wp2_with fail
    refine (HC1.out _).mono ?_; rintro e w' ⟨rfl, rfl⟩
    go_wp2_with fail
    have g0 : Grown w ((w.alloc (.cells #[.int .i64 p1, .int .i64 w1, .float .f64 f1, .float .f64 g1] 39)).alloc (.cells #[.int .i64 p2, .int .i64 w2, .float .f64 f2, .float .f64 g2] 39)) := ((Grown.refl _).alloc _ _).alloc _ _
    have s0 : Hid (Grown w ((w.alloc (.cells #[.int .i64 p1, .int .i64 w1, .float .f64 f1, .float .f64 g1] 39)).alloc (.cells #[.int .i64 p2, .int .i64 w2, .float .f64 f2, .float .f64 g2] 39)) ∧ ((w.alloc (.cells #[.int .i64 p1, .int .i64 w1, .float .f64 f1, .float .f64 g1] 39)).alloc (.cells #[.int .i64 p2, .int .i64 w2, .float .f64 f2, .float .f64 g2] 39)).cell? ⟨w.heap.size, 0, none⟩ = some (.int .i64 p1) ∧ ((w.alloc (.cells #[.int .i64 p1, .int .i64 w1, .float .f64 f1, .float .f64 g1] 39)).alloc (.cells #[.int .i64 p2, .int .i64 w2, .float .f64 f2, .float .f64 g2] 39)).cell? ⟨w.heap.size, 1, none⟩ = some (.int .i64 w1) ∧ ((w.alloc (.cells #[.int .i64 p1, .int .i64 w1, .float .f64 f1, .float .f64 g1] 39)).alloc (.cells #[.int .i64 p2, .int .i64 w2, .float .f64 f2, .float .f64 g2] 39)).cell? ⟨w.heap.size, 2, none⟩ = some (.float .f64 f1) ∧ ((w.alloc (.cells #[.int .i64 p1, .int .i64 w1, .float .f64 f1, .float .f64 g1] 39)).alloc (.cells #[.int .i64 p2, .int .i64 w2, .float .f64 f2, .float .f64 g2] 39)).cell? ⟨w.heap.size, 3, none⟩ = some (.float .f64 g1) ∧ ((w.alloc (.cells #[.int .i64 p1, .int .i64 w1, .float .f64 f1, .float .f64 g1] 39)).alloc (.cells #[.int .i64 p2, .int .i64 w2, .float .f64 f2, .float .f64 g2] 39)).cell? ⟨w.heap.size + 1, 0, none⟩ = some (.int .i64 p2) ∧ ((w.alloc (.cells #[.int .i64 p1, .int .i64 w1, .float .f64 f1, .float .f64 g1] 39)).alloc (.cells #[.int .i64 p2, .int .i64 w2, .float .f64 f2, .float .f64 g2] 39)).cell? ⟨w.heap.size + 1, 1, none⟩ = some (.int .i64 w2) ∧ ((w.alloc (.cells #[.int .i64 p1, .int .i64 w1, .float .f64 f1, .float .f64 g1] 39)).alloc (.cells #[.int .i64 p2, .int .i64 w2, .float .f64 f2, .float .f64 g2] 39)).cell? ⟨w.heap.size + 1, 2, none⟩ = some (.float .f64 f2) ∧ ((w.alloc (.cells #[.int .i64 p1, .int .i64 w1, .float .f64 f1, .float .f64 g1] 39)).alloc (.cells #[.int .i64 p2, .int .i64 w2, .float .f64 f2, .float .f64 g2] 39)).cell? ⟨w.heap.size + 1, 3, none⟩ = some (.float .f64 g2)) := Lib.hid ⟨g0, by simp [go_sem], by simp [go_sem], by simp [go_sem], by simp [go_sem], by simp [go_sem], by simp [go_sem], by simp [go_sem], by simp [go_sem]⟩
    clear g0
    refine (HR1.out _).mono ?_; rintro e v1 ⟨rfl, g1⟩
    have s1 := Lib.hid (cf_keep g1 s0.out)
    clear g1 s0
    have d2 := s1.out.2.2.2.2.2.2.2.1
    go_wp2_with fail
    refine (HR2.out _).mono ?_; rintro e v2 ⟨rfl, g2⟩
    have hcs := Lib.hid (cf_keep g2 s1.out)
    clear g2 s1 d2
    obtain ⟨-, c1, c2, c3, c4, c5, c6, c7, c8⟩ := hcs.out
    go_wp2_with fail
    go_quiet ((first
      | (go_at_call 38; with_reducible exact quiet_is (HQ1.out _))
      | (go_at_call 38; with_reducible exact quiet_is (HQ2.out _))))
    go_wp2_with fail
    clear c1 c2 c3 c4 c5 c6 c7 c8
    go_region_held3 (fun x => Grown w x ∧ x.cell? ⟨w.heap.size, 0, none⟩ = some (.int .i64 p1) ∧ x.cell? ⟨w.heap.size, 1, none⟩ = some (.int .i64 w1) ∧ x.cell? ⟨w.heap.size, 2, none⟩ = some (.float .f64 f1) ∧ x.cell? ⟨w.heap.size, 3, none⟩ = some (.float .f64 g1) ∧ x.cell? ⟨w.heap.size + 1, 0, none⟩ = some (.int .i64 p2) ∧ x.cell? ⟨w.heap.size + 1, 1, none⟩ = some (.int .i64 w2) ∧ x.cell? ⟨w.heap.size + 1, 2, none⟩ = some (.float .f64 f2) ∧ x.cell? ⟨w.heap.size + 1, 3, none⟩ = some (.float .f64 g2)) (first | assumption | exact hcs.out | exact cf_keep (grown_drewN (Grown.refl _) _) hcs.out | exact cf_keep (by assumption) (by assumption))
      (first
      | (go_at_call 35; (with_reducible refine (told2_any _).mono ?_); rintro e w7 ⟨rfl, gg⟩)
      | (go_at_call 36; (with_reducible refine (HM1.out _).mono ?_); rintro e w7 ⟨rfl, gg⟩)
      | (go_at_call 39; (with_reducible refine (HM2.out _).mono ?_); rintro e w7 ⟨rfl, gg⟩)
      | (go_at_call 34; (with_reducible refine (grown_is (HP1.out _)).mono ?_); rintro e w7 ⟨rfl, gg⟩)
      | (go_at_call 38; (with_reducible refine (grown_is (HQ1.out _)).mono ?_); rintro e w7 ⟨rfl, gg⟩)
      | (go_at_call 40; (with_reducible refine (HS1.out _).mono ?_); rintro e w7 ⟨rfl, gg⟩)
      | (go_at_call 40; (with_reducible refine (HS2.out _).mono ?_); rintro e w7 ⟨rfl, gg⟩))
    all_goals
      rename_i hh
      have HH := Lib.hid hh.1
      clear hh hcs
      go_wp2_with fail
      go_ret
      exact ⟨ret_bool (by first | rfl | simp), HH.out⟩

theorem confFloats_walk (p1 w1 p2 w2 : Int) (f1 g1 f2 g2 : Nat) (w : World) :
    Calls Try.prog 15 #[.agg #[.int .i64 p1, .int .i64 w1, .float .f64 f1, .float .f64 g1], .agg #[.int .i64 p2, .int .i64 w2, .float .f64 f2, .float .f64 g2]] w fun e w' => e = .returned (.bool true) ∧ Grown w w' := by
  obtain ⟨t, ht⟩ : ∃ t : Bool, ∀ t1 t2 t3 t4 t5 : Bool, (p1 == p2) = t1 → (w1 == w2) = t2 → ((Flt.pct f1).1 == (Flt.pct f2).1) = t3 → ((Flt.pct f1).2 == (Flt.pct f2).2) = t4 → (Flt.prt g1 == Flt.prt g2) = t5 →
      ((t1 = false ∧ t = false) ∨ (t1 = true ∧ t2 = false ∧ t = false) ∨ (t1 = true ∧ t2 = true ∧ t3 = false ∧ t = false) ∨ (t1 = true ∧ t2 = true ∧ t3 = true ∧ t4 = false ∧ t = false) ∨ (t1 = true ∧ t2 = true ∧ t3 = true ∧ t4 = true ∧ t5 = t)) := by
    refine ⟨(p1 == p2) && (w1 == w2) && ((Flt.pct f1).1 == (Flt.pct f2).1) && ((Flt.pct f1).2 == (Flt.pct f2).2) && (Flt.prt g1 == Flt.prt g2), ?_⟩
    rintro t1 t2 t3 t4 t5 rfl rfl rfl rfl rfl
    generalize (p1 == p2) = a
    generalize (w1 == w2) = b
    generalize ((Flt.pct f1).1 == (Flt.pct f2).1) = c
    generalize ((Flt.pct f1).2 == (Flt.pct f2).2) = d
    generalize (Flt.prt g1 == Flt.prt g2) = e
    revert a b c d e
    decide
  exact confFloats_core p1 w1 p2 w2 f1 g1 f2 g2 _ _ _ _ _ _ _ _ _ _ _ _ t w (Lib.hid ⟨rfl, rfl, rfl, rfl⟩) (Lib.hid rfl) rfl rfl rfl rfl rfl (ht _ _ _ _ _ rfl rfl rfl rfl rfl)
end Go.Proofs.Ytlbefohabphjlaa
