/-
  THE WALK of treadmilllaw23.PacerEdges: an empty heap, a full one, a collector that is off, percents beyond their bounds.
-/
import Derived.Test.YtflfhjemblhafaaPacer2
import Derived.IntWalk
namespace Go.Proofs.Ytflfhjemblhafaa
open Go.RowKit

/-- A number as an unsigned one, modulo another. -/
theorem utmod (a m : Int) (hm : 0 < m) : ∃ x, (IntKind.u64.wrap a).tmod m = x ∧ 0 ≤ x ∧ x < m := by
  refine ⟨_, rfl, ?_, ?_⟩
  · rw [u64_wrap, Int.tmod_eq_emod_of_nonneg (by omega)]; exact Int.emod_nonneg _ (by omega)
  · rw [u64_wrap, Int.tmod_eq_emod_of_nonneg (by omega)]; exact Int.emod_lt_of_pos _ hm

/-- What Goal answers, as one fact. -/
structure GoalAt (live n percent t g r : Int) : Prop where
  l : ∃ l p, min (max live 0) n = l ∧ min (max percent 0) 10000 = p ∧ Pc.goal l n p = g ∧ Pc.trig l g = t ∧ Pc.ratio l t g = r

theorem goal_at (live n percent t g r : Int) (w : World) (n0 : 0 ≤ n) (n1 : n ≤ 16777216) (H : GoalAt live n percent t g r) :
    Calls Try.prog 27 #[.int .i64 live, .int .i64 n, .int .i64 percent, .bool true] w fun e w' => e = .returned (.agg #[.int .i64 t, .int .i64 g, .int .i64 r]) ∧ Below w.heap.size w w' := by
  obtain ⟨l, p, h1, h2, h3, h4, h5⟩ := H.l
  exact goal_any live n percent l p t g r w (Lib.hid h1) (Lib.hid h2) (Lib.hid h3) (Lib.hid h4) (Lib.hid h5) n0 n1

structure EdgesAt (n q t f r r1 r2 s1 s2 s3 s4 : Int) : Prop where
  none : GoalAt 0 n 0 t q r
  full : GoalAt n n 100 f f 67108864
  over : GoalAt (n + 5) n 20000 r1 r2 s1
  over' : GoalAt n n 10000 r1 r2 s1
  same : GoalAt (n / 3) n (-7) s2 s3 s4
  zero : GoalAt (n / 3) n 0 s2 s3 s4

theorem edges_keep {n q t f r1 r2 s1 s2 s3 s4 : Int} {k1 k2 k3 k4 k5 k6 : Nat} {w w' w0 : World} (b : Below w.heap.size w w')
    (h : Below w0.heap.size w0 w ∧ w.cell? ⟨k1, 1, none⟩ = some (.int .i64 q) ∧ w.cell? ⟨k1, 0, none⟩ = some (.int .i64 t) ∧ w.cell? ⟨k2, 0, none⟩ = some (.int .i64 f) ∧ w.cell? ⟨k2, 1, none⟩ = some (.int .i64 f) ∧ w.cell? ⟨k2, 2, none⟩ = some (.int .i64 67108864) ∧ w.cell? ⟨k3, 0, none⟩ = some (.int .i64 r1) ∧ w.cell? ⟨k3, 1, none⟩ = some (.int .i64 r2) ∧ w.cell? ⟨k3, 2, none⟩ = some (.int .i64 s1) ∧ w.cell? ⟨k4, 0, none⟩ = some (.int .i64 n) ∧ w.cell? ⟨k4, 1, none⟩ = some (.int .i64 n) ∧ w.cell? ⟨k4, 2, none⟩ = some (.int .i64 0) ∧ w.cell? ⟨k5, 0, none⟩ = some (.int .i64 s2) ∧ w.cell? ⟨k5, 1, none⟩ = some (.int .i64 s3) ∧ w.cell? ⟨k5, 2, none⟩ = some (.int .i64 s4) ∧ w.cell? ⟨k6, 0, none⟩ = some (.int .i64 s2) ∧ w.cell? ⟨k6, 1, none⟩ = some (.int .i64 s3) ∧ w.cell? ⟨k6, 2, none⟩ = some (.int .i64 s4)) : Below w0.heap.size w0 w' ∧ w'.cell? ⟨k1, 1, none⟩ = some (.int .i64 q) ∧ w'.cell? ⟨k1, 0, none⟩ = some (.int .i64 t) ∧ w'.cell? ⟨k2, 0, none⟩ = some (.int .i64 f) ∧ w'.cell? ⟨k2, 1, none⟩ = some (.int .i64 f) ∧ w'.cell? ⟨k2, 2, none⟩ = some (.int .i64 67108864) ∧ w'.cell? ⟨k3, 0, none⟩ = some (.int .i64 r1) ∧ w'.cell? ⟨k3, 1, none⟩ = some (.int .i64 r2) ∧ w'.cell? ⟨k3, 2, none⟩ = some (.int .i64 s1) ∧ w'.cell? ⟨k4, 0, none⟩ = some (.int .i64 n) ∧ w'.cell? ⟨k4, 1, none⟩ = some (.int .i64 n) ∧ w'.cell? ⟨k4, 2, none⟩ = some (.int .i64 0) ∧ w'.cell? ⟨k5, 0, none⟩ = some (.int .i64 s2) ∧ w'.cell? ⟨k5, 1, none⟩ = some (.int .i64 s3) ∧ w'.cell? ⟨k5, 2, none⟩ = some (.int .i64 s4) ∧ w'.cell? ⟨k6, 0, none⟩ = some (.int .i64 s2) ∧ w'.cell? ⟨k6, 1, none⟩ = some (.int .i64 s3) ∧ w'.cell? ⟨k6, 2, none⟩ = some (.int .i64 s4) :=
  let ⟨h0, h1, h2, h3, h4, h5, h6, h7, h8, h9, h10, h11, h12, h13, h14, h15, h16, h17⟩ := h
  ⟨below_trans h0 b, cell_in b h1, cell_in b h2, cell_in b h3, cell_in b h4, cell_in b h5, cell_in b h6, cell_in b h7, cell_in b h8, cell_in b h9, cell_in b h10, cell_in b h11, cell_in b h12, cell_in b h13, cell_in b h14, cell_in b h15, cell_in b h16, cell_in b h17⟩

set_option maxHeartbeats 4000000 in
theorem pacerEdges_core (a1 v n q t f r r1 r2 s1 s2 s3 s4 : Int) (w : World) (hv : (IntKind.u64.wrap a1).tmod 16777153 = v) (v0 : 0 ≤ v) (v1 : v ≤ 16777152) (hn : 64 + v = n)
    (hq : n / 4 = q) (ht : q * 3 / 4 = t) (hf : n / 2 * 2 = f) (H : Hid (EdgesAt n q t f r r1 r2 s1 s2 s3 s4)) (HB : Hid (Hid (Pc.begins f 67108864 n = true))) (HC : Hid (Hid (Pc.begins n 0 n = false))) :
    Calls Try.prog 11 #[.int .i64 a1] w fun e w' => e = .returned (.bool true) ∧ Below w.heap.size w w' := by
  go_enter Try.func11, Try.ntmps11
  go_wp2_with fail
  refine (goal_at _ _ _ _ _ _ _ (by omega) (by omega) H.out.none).mono ?_; rintro e w1 ⟨rfl, b1⟩
  go_wp2_with fail
  refine (goal_at _ _ _ _ _ _ _ (by omega) (by omega) H.out.full).mono ?_; rintro e w2 ⟨rfl, b2⟩
  obtain ⟨hc2, hf2⟩ := bcell b2
  have hz2 : w1.heap.size < w2.heap.size := by have := b2.size; simp at this; omega
  go_wp2_with fail
  refine (goal_at _ _ _ _ _ _ _ (by omega) (by omega) H.out.over).mono ?_; rintro e w3 ⟨rfl, b3⟩
  obtain ⟨hc3, hf3⟩ := bcell b3
  have hz3 : w2.heap.size < w3.heap.size := by have := b3.size; simp at this; omega
  go_wp2_with fail
  refine (goal_off _ _ _ (n / 2) (n / 2) _ (by omega) (by omega) (by omega) (by omega)).mono ?_; rintro e w4 ⟨rfl, b4⟩
  obtain ⟨hc4, hf4⟩ := bcell b4
  have hz4 : w3.heap.size < w4.heap.size := by have := b4.size; simp at this; omega
  go_wp2_with fail
  refine (goal_at _ _ _ _ _ _ _ (by omega) (by omega) H.out.same).mono ?_; rintro e w5 ⟨rfl, b5⟩
  obtain ⟨hc5, hf5⟩ := bcell b5
  have hz5 : w4.heap.size < w5.heap.size := by have := b5.size; simp at this; omega
  go_wp2_with fail
  refine (goal_at _ _ _ _ _ _ _ (by omega) (by omega) H.out.zero).mono ?_; rintro e w6 ⟨rfl, b6⟩
  obtain ⟨hc6, hf6⟩ := bcell b6
  have hz6 : w5.heap.size < w6.heap.size := by have := b6.size; simp at this; omega
  go_wp2_with fail
  have B6 : Below (w6.alloc (.cells #[.int .i64 s2, .int .i64 s3, .int .i64 s4] 41)).heap.size (w6.alloc (.cells #[.int .i64 s2, .int .i64 s3, .int .i64 s4] 41)) (w6.alloc (.cells #[.int .i64 s2, .int .i64 s3, .int .i64 s4] 41)) := Below.refl _ _
  have B5 := below_trans (below_alloc b6 (.cells #[.int .i64 s2, .int .i64 s3, .int .i64 s4] 41)) B6
  have B4 := below_trans (below_alloc b5 (.cells #[.int .i64 s2, .int .i64 s3, .int .i64 s4] 41)) B5
  have B3 := below_trans (below_alloc b4 (.cells #[.int .i64 n, .int .i64 n, .int .i64 0] 41)) B4
  have B2 := below_trans (below_alloc b3 (.cells #[.int .i64 r1, .int .i64 r2, .int .i64 s1] 41)) B3
  have B1 := below_trans (below_alloc b2 (.cells #[.int .i64 f, .int .i64 f, .int .i64 67108864] 41)) B2
  have B0 := below_trans (below_alloc b1 (.cells #[.int .i64 t, .int .i64 q, .int .i64 r] 41)) B1
  have hcs : Below w.heap.size w (w6.alloc (.cells #[.int .i64 s2, .int .i64 s3, .int .i64 s4] 41)) ∧ (w6.alloc (.cells #[.int .i64 s2, .int .i64 s3, .int .i64 s4] 41)).cell? ⟨w1.heap.size, 1, none⟩ = some (.int .i64 q) ∧ (w6.alloc (.cells #[.int .i64 s2, .int .i64 s3, .int .i64 s4] 41)).cell? ⟨w1.heap.size, 0, none⟩ = some (.int .i64 t) ∧ (w6.alloc (.cells #[.int .i64 s2, .int .i64 s3, .int .i64 s4] 41)).cell? ⟨w2.heap.size, 0, none⟩ = some (.int .i64 f) ∧ (w6.alloc (.cells #[.int .i64 s2, .int .i64 s3, .int .i64 s4] 41)).cell? ⟨w2.heap.size, 1, none⟩ = some (.int .i64 f) ∧ (w6.alloc (.cells #[.int .i64 s2, .int .i64 s3, .int .i64 s4] 41)).cell? ⟨w2.heap.size, 2, none⟩ = some (.int .i64 67108864) ∧ (w6.alloc (.cells #[.int .i64 s2, .int .i64 s3, .int .i64 s4] 41)).cell? ⟨w3.heap.size, 0, none⟩ = some (.int .i64 r1) ∧ (w6.alloc (.cells #[.int .i64 s2, .int .i64 s3, .int .i64 s4] 41)).cell? ⟨w3.heap.size, 1, none⟩ = some (.int .i64 r2) ∧ (w6.alloc (.cells #[.int .i64 s2, .int .i64 s3, .int .i64 s4] 41)).cell? ⟨w3.heap.size, 2, none⟩ = some (.int .i64 s1) ∧ (w6.alloc (.cells #[.int .i64 s2, .int .i64 s3, .int .i64 s4] 41)).cell? ⟨w4.heap.size, 0, none⟩ = some (.int .i64 n) ∧ (w6.alloc (.cells #[.int .i64 s2, .int .i64 s3, .int .i64 s4] 41)).cell? ⟨w4.heap.size, 1, none⟩ = some (.int .i64 n) ∧ (w6.alloc (.cells #[.int .i64 s2, .int .i64 s3, .int .i64 s4] 41)).cell? ⟨w4.heap.size, 2, none⟩ = some (.int .i64 0) ∧ (w6.alloc (.cells #[.int .i64 s2, .int .i64 s3, .int .i64 s4] 41)).cell? ⟨w5.heap.size, 0, none⟩ = some (.int .i64 s2) ∧ (w6.alloc (.cells #[.int .i64 s2, .int .i64 s3, .int .i64 s4] 41)).cell? ⟨w5.heap.size, 1, none⟩ = some (.int .i64 s3) ∧ (w6.alloc (.cells #[.int .i64 s2, .int .i64 s3, .int .i64 s4] 41)).cell? ⟨w5.heap.size, 2, none⟩ = some (.int .i64 s4) ∧ (w6.alloc (.cells #[.int .i64 s2, .int .i64 s3, .int .i64 s4] 41)).cell? ⟨w6.heap.size, 0, none⟩ = some (.int .i64 s2) ∧ (w6.alloc (.cells #[.int .i64 s2, .int .i64 s3, .int .i64 s4] 41)).cell? ⟨w6.heap.size, 1, none⟩ = some (.int .i64 s3) ∧ (w6.alloc (.cells #[.int .i64 s2, .int .i64 s3, .int .i64 s4] 41)).cell? ⟨w6.heap.size, 2, none⟩ = some (.int .i64 s4) :=
    ⟨B0, cell_in B1 (World.cell?_alloc_new ..), cell_in B1 (World.cell?_alloc_new ..), cell_in B2 (World.cell?_alloc_new ..), cell_in B2 (World.cell?_alloc_new ..), cell_in B2 (World.cell?_alloc_new ..), cell_in B3 (World.cell?_alloc_new ..), cell_in B3 (World.cell?_alloc_new ..), cell_in B3 (World.cell?_alloc_new ..), cell_in B4 (World.cell?_alloc_new ..), cell_in B4 (World.cell?_alloc_new ..), cell_in B4 (World.cell?_alloc_new ..), cell_in B5 (World.cell?_alloc_new ..), cell_in B5 (World.cell?_alloc_new ..), cell_in B5 (World.cell?_alloc_new ..), cell_in B6 (World.cell?_alloc_new ..), cell_in B6 (World.cell?_alloc_new ..), cell_in B6 (World.cell?_alloc_new ..)⟩
  have HS := Lib.hid hcs
  clear hcs B0 B1 B2 B3 B4 B5 B6 b1 b2 b3 b4 b5 b6 hc2 hc3 hc4 hc5 hc6 hf2 hf3 hf4 hf5 hf6 hz2 hz3 hz4 hz5 hz6
  have N : 0 ≤ n ∧ n ≤ 16777216 := by omega
  have G1 : IntKind.i64.wrap (n.tdiv 4) = q := by rw [Int.tdiv_eq_ediv_of_nonneg (by omega), hq, IntWalk.i64_in _ (by omega)]
  have G2 : IntKind.i64.wrap (q * 3) = q * 3 := IntWalk.i64_in _ (by omega)
  have G3 : IntKind.i64.wrap ((q * 3).tdiv 4) = t := by rw [Int.tdiv_eq_ediv_of_nonneg (by omega), ht, IntWalk.i64_in _ (by omega)]
  have G4 : IntKind.i64.wrap (n.tdiv 2) = n / 2 := by rw [Int.tdiv_eq_ediv_of_nonneg (by omega), IntWalk.i64_in _ (by omega)]
  have G5 : IntKind.i64.wrap (n / 2 * 2) = f := by rw [hf, IntWalk.i64_in _ (by omega)]
  clear hq ht hf hv hn
  simp only [List.append_eq, List.cons_append, List.nil_append]
  go_region_held3 (fun x => Below w.heap.size w x ∧ x.cell? ⟨w1.heap.size, 1, none⟩ = some (.int .i64 q) ∧ x.cell? ⟨w1.heap.size, 0, none⟩ = some (.int .i64 t) ∧ x.cell? ⟨w2.heap.size, 0, none⟩ = some (.int .i64 f) ∧ x.cell? ⟨w2.heap.size, 1, none⟩ = some (.int .i64 f) ∧ x.cell? ⟨w2.heap.size, 2, none⟩ = some (.int .i64 67108864) ∧ x.cell? ⟨w3.heap.size, 0, none⟩ = some (.int .i64 r1) ∧ x.cell? ⟨w3.heap.size, 1, none⟩ = some (.int .i64 r2) ∧ x.cell? ⟨w3.heap.size, 2, none⟩ = some (.int .i64 s1) ∧ x.cell? ⟨w4.heap.size, 0, none⟩ = some (.int .i64 n) ∧ x.cell? ⟨w4.heap.size, 1, none⟩ = some (.int .i64 n) ∧ x.cell? ⟨w4.heap.size, 2, none⟩ = some (.int .i64 0) ∧ x.cell? ⟨w5.heap.size, 0, none⟩ = some (.int .i64 s2) ∧ x.cell? ⟨w5.heap.size, 1, none⟩ = some (.int .i64 s3) ∧ x.cell? ⟨w5.heap.size, 2, none⟩ = some (.int .i64 s4) ∧ x.cell? ⟨w6.heap.size, 0, none⟩ = some (.int .i64 s2) ∧ x.cell? ⟨w6.heap.size, 1, none⟩ = some (.int .i64 s3) ∧ x.cell? ⟨w6.heap.size, 2, none⟩ = some (.int .i64 s4)) (first | exact ⟨HS.out.1.drew, HS.out.2⟩ | exact edges_keep (by assumption) (by assumption))
    (first
    | (go_at_call 29; (with_reducible refine (told23_any _).mono ?_); rintro e w7 ⟨rfl, b7⟩)
    | (go_at_call 27; (with_reducible refine (goal_at _ _ _ _ _ _ _ N.1 N.2 H.out.over').mono ?_); rintro e w8 ⟨rfl, b8⟩)
    | (go_at_call 30; (with_reducible refine (begin_bel _ _ _ _ false _ HC.out).mono ?_); rintro e w9 ⟨rfl, b9⟩)
    | (go_at_call 30; (with_reducible refine (begin_bel _ _ _ _ true _ HB.out).mono ?_); rintro e w9 ⟨rfl, b9⟩))
  all_goals
    rename_i hh
    obtain ⟨hh, -⟩ := hh
    have HH := Lib.hid hh
    clear hh HS
    go_wp2_with fail
    go_ret
    exact ⟨ret_bool (by first | rfl | simp), HH.out⟩

theorem goal_made {l n p live percent : Int} (h : min (max live 0) n = l) (h' : min (max percent 0) 10000 = p) : GoalAt live n percent (Pc.trig l (Pc.goal l n p)) (Pc.goal l n p) (Pc.ratio l (Pc.trig l (Pc.goal l n p)) (Pc.goal l n p)) :=
  ⟨l, p, h, h', rfl, rfl, rfl⟩

theorem pacerEdges_walk (a1 : Int) (w : World) (_b1 : -9223372036854775808 ≤ a1) (_b2 : a1 ≤ 9223372036854775807) :
    Calls Try.prog 11 #[.int .i64 a1] w fun e w' => e = .returned (.bool true) ∧ Below w.heap.size w w' := by
  obtain ⟨v, hv, v0, v1⟩ := utmod a1 16777153 (by omega)
  obtain ⟨n, hn⟩ : ∃ n, 64 + v = n := ⟨_, rfl⟩
  have h0 : Pc.goal 0 n 0 = n / 4 := by unfold Pc.goal Pc.goal0; omega
  have h0t : Pc.trig 0 (n / 4) = n / 4 * 3 / 4 := by unfold Pc.trig; omega
  have h1 : Pc.goal n n 100 = n / 2 * 2 := by unfold Pc.goal Pc.goal0; omega
  have h1t : Pc.trig n (n / 2 * 2) = n / 2 * 2 := by unfold Pc.trig; omega
  have e1 : Pc.work n = (n + 64) * 1048576 := by
    unfold Pc.work Fx.add
    rw [Int.max_eq_left (by omega), Fx.sat_eq (by omega) (by omega)]
    exact Fx.sat_eq (by omega) (by omega)
  have e2 : Pc.room (n / 2 * 2) (n / 2 * 2) = 1048576 := by
    unfold Pc.room Fx.sub
    rw [show n / 2 * 2 - n / 2 * 2 = 0 by omega, Fx.sat_eq (by omega) (by omega)]
    exact Fx.sat_eq (by omega) (by omega)
  have h1r : Pc.ratio n (n / 2 * 2) (n / 2 * 2) = 67108864 := by
    unfold Pc.ratio Pc.quo
    rw [e1, e2]
    unfold Fx.div
    rw [if_neg (by omega), Int.fdiv_eq_ediv_of_nonneg _ (by omega), Int.mul_ediv_cancel _ (by omega), Fx.sat_eq (by omega) (by omega)]
    unfold cl
    repeat' split <;> omega
  have m1 := goal_made (l := n) (n := n) (p := 10000) (live := n + 5) (percent := 20000) (by omega) (by omega)
  have m2 := goal_made (l := n) (n := n) (p := 10000) (live := n) (percent := 10000) (by omega) (by omega)
  have m3 := goal_made (l := n / 3) (n := n) (p := 0) (live := n / 3) (percent := -7) (by omega) (by omega)
  have m4 := goal_made (l := n / 3) (n := n) (p := 0) (live := n / 3) (percent := 0) (by omega) (by omega)
  have m5 := goal_made (l := 0) (n := n) (p := 0) (live := 0) (percent := 0) (by omega) (by omega)
  rw [h0, h0t] at m5
  have m6 := goal_made (l := n) (n := n) (p := 100) (live := n) (percent := 100) (by omega) (by omega)
  rw [h1, h1t, h1r] at m6
  refine pacerEdges_core a1 v n (n / 4) (n / 4 * 3 / 4) (n / 2 * 2) _ _ _ _ _ _ _ w hv v0 (by omega) hn rfl rfl rfl (Lib.hid ⟨m5, m6, m1, m2, m3, m4⟩) (Lib.hid (Lib.hid ?_)) (Lib.hid (Lib.hid ?_))
  · exact decide_eq_true ⟨by omega, by omega⟩
  · exact decide_eq_false (by omega)
end Go.Proofs.Ytflfhjemblhafaa
