/-
  THE WALK of treadmilllaw23.PacerOrder: a trigger is at most its goal, both within the heap; more that lives, or more percent, never brings a lesser goal; ratios lie within their bounds.
-/
import Derived.Test.YtflfhjemblhafaaPacer2
import Derived.IntWalk
namespace Go.Proofs.Ytflfhjemblhafaa
open Go.RowKit

/-- A number as an unsigned one, modulo another. -/
theorem utmod (a m : Int) (hm : 0 < m) : ∃ x, (IntKind.u64.wrap a).tmod m = x ∧ 0 ≤ x ∧ x < m := by
  refine ⟨_, rfl, ?_, ?_⟩
  · rw [u64_wrap, Int.tmod_eq_emod_of_nonneg (by omega)]; exact Int.emod_nonneg _ (by omega)
  · rw [u64_wrap, Int.tmod_eq_emod_of_nonneg (by omega)]; exact Int.emod_lt_of_pos _ hm

/-- What Goal answers, as one fact. -/
structure GoalAt (live n percent t g r : Int) : Prop where
  l : ∃ l p, min (max live 0) n = l ∧ min (max percent 0) 10000 = p ∧ Pc.goal l n p = g ∧ Pc.trig l g = t ∧ Pc.ratio l t g = r

theorem goal_at (live n percent t g r : Int) (w : World) (n0 : 0 ≤ n) (n1 : n ≤ 16777216) (H : GoalAt live n percent t g r) :
    Calls Try.prog 27 #[.int .i64 live, .int .i64 n, .int .i64 percent, .bool true] w fun e w' => e = .returned (.agg #[.int .i64 t, .int .i64 g, .int .i64 r]) ∧ Below w.heap.size w w' := by
  obtain ⟨l, p, h1, h2, h3, h4, h5⟩ := H.l
  exact goal_any live n percent l p t g r w (Lib.hid h1) (Lib.hid h2) (Lib.hid h3) (Lib.hid h4) (Lib.hid h5) n0 n1

structure OrderAt (l n p b b' ta ga ra tb gb rb tc gc rc x y z o : Int) : Prop where
  a : GoalAt l n p ta ga ra
  b : GoalAt b n p tb gb rb
  c : GoalAt l n b' tc gc rc
  r : Pc.ratio x y z = o

set_option maxHeartbeats 4000000 in
theorem pacerOrder_core (a1 a2 a3 a4 a5 a6 a7 l n p m b p' ta ga ra tb gb rb tc gc rc o : Int) (w : World) (i5 : Hid (In a5)) (i6 : Hid (In a6)) (i7 : Hid (In a7)) (hn : (IntKind.u64.wrap a2).tmod 16777216 = n) (n0 : 0 ≤ n) (n1 : n ≤ 16777215) (hl : (IntKind.u64.wrap a1).tmod (n + 1) = l) (l0 : 0 ≤ l) (l1 : l ≤ n)
    (hp : (IntKind.u64.wrap a3).tmod 10001 = p) (p0 : 0 ≤ p) (p1 : p ≤ 10000) (hm : (IntKind.u64.wrap a4).tmod 10001 = m) (m0 : 0 ≤ m) (m1 : m ≤ 10000)
    (hb : min (l + m) n = b) (hp' : min (p + m) 10000 = p') (H : Hid (OrderAt l n p b p' ta ga ra tb gb rb tc gc rc a5 a6 a7 o))
    (t0 : 0 ≤ ta) (tg : ta ≤ ga) (gn : ga ≤ n) (gb' : ga ≤ gb) (gc' : ga ≤ gc) (r0 : 131072 ≤ ra) (r1 : ra ≤ 67108864) (o0 : 131072 ≤ o) (o1 : o ≤ 67108864) :
    Calls Try.prog 10 #[.int .i64 a1, .int .i64 a2, .int .i64 a3, .int .i64 a4, .int .i64 a5, .int .i64 a6, .int .i64 a7] w fun e w' => e = .returned (.bool true) ∧ Below w.heap.size w w' := by
  go_enter Try.func10, Try.ntmps10
  go_wp2_with fail
  refine (goal_at _ _ _ _ _ _ _ (by omega) (by omega) H.out.a).mono ?_; rintro e w1 ⟨rfl, b1⟩
  go_wp2_with fail
  refine (goal_at _ _ _ _ _ _ _ (by omega) (by omega) H.out.b).mono ?_; rintro e w2 ⟨rfl, b2⟩
  obtain ⟨hc2, hf2⟩ := bcell b2
  have hz2 : w1.heap.size < w2.heap.size := by have := b2.size; simp at this; omega
  go_wp2_with fail
  refine (goal_at _ _ _ _ _ _ _ (by omega) (by omega) H.out.c).mono ?_; rintro e w3 ⟨rfl, b3⟩
  obtain ⟨hc3, hf3⟩ := bcell b3
  have hz3 : w2.heap.size < w3.heap.size := by have := b3.size; simp at this; omega
  go_wp2_with fail
  refine (ratio_any _ _ _ _ i5.out i6.out i7.out).mono ?_; rw [H.out.r]; rintro e w4 ⟨rfl, k, rfl⟩
  go_wp2_with fail
  refine (told23_any _).mono ?_; rintro e w5 ⟨rfl, b5⟩
  have B3 := below_trans (below_drewN (Below.refl _ (w3.alloc (.cells #[.int .i64 tc, .int .i64 gc, .int .i64 rc] 41))) k) b5
  have B2 := below_trans (below_alloc b3 (.cells #[.int .i64 tc, .int .i64 gc, .int .i64 rc] 41)) B3
  have B1 := below_trans (below_alloc b2 (.cells #[.int .i64 tb, .int .i64 gb, .int .i64 rb] 41)) B2
  have B0 := below_trans (below_alloc b1 (.cells #[.int .i64 ta, .int .i64 ga, .int .i64 ra] 41)) B1
  have c10 : w5.cell? ⟨w1.heap.size, 0, none⟩ = some (.int .i64 ta) := cell_in B1 (World.cell?_alloc_new ..)
  have c11 : w5.cell? ⟨w1.heap.size, 1, none⟩ = some (.int .i64 ga) := cell_in B1 (World.cell?_alloc_new ..)
  have c12 : w5.cell? ⟨w1.heap.size, 2, none⟩ = some (.int .i64 ra) := cell_in B1 (World.cell?_alloc_new ..)
  have c21 : w5.cell? ⟨w2.heap.size, 1, none⟩ = some (.int .i64 gb) := cell_in B2 (World.cell?_alloc_new ..)
  have c31 : w5.cell? ⟨w3.heap.size, 1, none⟩ = some (.int .i64 gc) := cell_in B3 (World.cell?_alloc_new ..)
  have HB := Lib.hid B0
  clear hc2 hf2 hc3 hf3 hz2 hz3 b1 b2 b3 b5 B0 B1 B2 B3
  go_wp2_with fail
  go_ret
  exact ⟨ret_bool (by first | rfl | (simp; omega)), HB.out⟩

theorem goal_made {l n p : Int} (l0 : 0 ≤ l) (l1 : l ≤ n) (p0 : 0 ≤ p) (p1 : p ≤ 10000) : GoalAt l n p (Pc.trig l (Pc.goal l n p)) (Pc.goal l n p) (Pc.ratio l (Pc.trig l (Pc.goal l n p)) (Pc.goal l n p)) :=
  ⟨l, p, by omega, by omega, rfl, rfl, rfl⟩

theorem goal_mono {l n p b q : Int} (l0 : 0 ≤ l) (h : l ≤ b) (p0 : 0 ≤ p) (hq : p ≤ q) : Pc.goal l n p ≤ Pc.goal b n q := by
  have h1 : l * p ≤ b * q := Int.mul_le_mul h hq p0 (by omega)
  unfold Pc.goal Pc.goal0
  omega

theorem pacerOrder_walk (a1 a2 a3 a4 a5 a6 a7 : Int) (w : World) (_b1 : -9223372036854775808 ≤ a1) (_b2 : a1 ≤ 9223372036854775807) (_b3 : -9223372036854775808 ≤ a2) (_b4 : a2 ≤ 9223372036854775807) (_b5 : -9223372036854775808 ≤ a3) (_b6 : a3 ≤ 9223372036854775807) (_b7 : -9223372036854775808 ≤ a4) (_b8 : a4 ≤ 9223372036854775807) (b9 : -9223372036854775808 ≤ a5) (b10 : a5 ≤ 9223372036854775807) (b11 : -9223372036854775808 ≤ a6) (b12 : a6 ≤ 9223372036854775807) (b13 : -9223372036854775808 ≤ a7) (b14 : a7 ≤ 9223372036854775807) :
    Calls Try.prog 10 #[.int .i64 a1, .int .i64 a2, .int .i64 a3, .int .i64 a4, .int .i64 a5, .int .i64 a6, .int .i64 a7] w fun e w' => e = .returned (.bool true) ∧ Below w.heap.size w w' := by
  obtain ⟨n, hn, n0, n1⟩ := utmod a2 16777216 (by omega)
  obtain ⟨l, hl, l0, l1⟩ := utmod a1 (n + 1) (by omega)
  obtain ⟨p, hp, p0, p1⟩ := utmod a3 10001 (by omega)
  obtain ⟨m, hm, m0, m1⟩ := utmod a4 10001 (by omega)
  have q0 : 0 ≤ l * p := Int.mul_nonneg l0 p0
  have g0 : 0 ≤ Pc.goal l n p ∧ Pc.goal l n p ≤ n := by unfold Pc.goal Pc.goal0; omega
  have tr : 0 ≤ Pc.trig l (Pc.goal l n p) ∧ Pc.trig l (Pc.goal l n p) ≤ Pc.goal l n p := by unfold Pc.trig; omega
  have r := Pc.ratio_range l (Pc.trig l (Pc.goal l n p)) (Pc.goal l n p)
  have o := Pc.ratio_range a5 a6 a7
  exact pacerOrder_core a1 a2 a3 a4 a5 a6 a7 l n p m (min (l + m) n) (min (p + m) 10000) _ _ _ _ _ _ _ _ _ _ w (Lib.hid ⟨b9, b10⟩) (Lib.hid ⟨b11, b12⟩) (Lib.hid ⟨b13, b14⟩) hn n0 (by omega) hl l0 (by omega) hp p0 (by omega) hm m0 (by omega) rfl rfl
    (Lib.hid ⟨goal_made l0 (by omega) p0 (by omega), goal_made (by omega) (by omega) p0 (by omega), goal_made l0 (by omega) (by omega) (by omega), rfl⟩) tr.1 tr.2 g0.2 (goal_mono l0 (by omega) p0 (by omega)) (goal_mono l0 (by omega) p0 (by omega)) r.1 r.2 o.1 o.2
end Go.Proofs.Ytflfhjemblhafaa
